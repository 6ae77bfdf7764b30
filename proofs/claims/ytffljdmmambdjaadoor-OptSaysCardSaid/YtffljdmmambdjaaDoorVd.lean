/- A calculus of what functions come to, part d: what is said holds in every world; conditions stand in each theorem. -/
import Derived.HandedShaped
import Derived.LaidMore
import Derived.Lib.ItoaNum
import Derived.Lib.Join
import Derived.Lib.LaidTab
import Derived.Lib.Replace
import Derived.Lib.SlTrimSet
import Derived.Lib.SplitLaws
import Derived.Shelf.Vars
import Derived.Test.YtffljdmmambdjaaDoorVc
set_option linter.unusedVariables false
set_option linter.unusedSimpArgs false
set_option linter.unusedSectionVars false
section PartP1
/-! Lines, in plain words. -/
namespace Gp
abbrev Bs := List UInt8
/-- Lines, each with an end. -/
def put : List Bs → Bs
  | [] => []
  | s :: r => s ++ 10 :: put r
def lineGo : Bs → Bs → List Bs
  | acc, [] => if acc = [] then [] else [acc]
  | acc, c :: r => if c = 10 then acc :: lineGo [] r else lineGo (acc ++ [c]) r
/-- Lines of bytes. -/
def linesOf (b : Bs) : List Bs := lineGo [] b
def whole (b : Bs) : Bs := put (linesOf b)
def NoNl (l : List Bs) : Prop := ∀ s ∈ l, (10 : UInt8) ∉ s
theorem put_append (a b : List Bs) : put (a ++ b) = put a ++ put b := by
  induction a with
  | nil => rfl
  | cons s r ih => simp [put, ih]
theorem put_snoc (l : List Bs) (s : Bs) : put (l ++ [s]) = put l ++ (s ++ [10]) := by
  rw [put_append]; rfl
theorem put_take_succ {l : List Bs} {i : Nat} (h : i < l.length) : put (l.take (i + 1)) = put (l.take i) ++ (l[i] ++ [10]) := by
  rw [List.take_succ_eq_append_getElem h, put_snoc]
theorem put_take_le (l : List Bs) (i : Nat) : (put (l.take i)).length ≤ (put l).length := by
  have := congrArg (fun a => (put a).length) (List.take_append_drop i l)
  simp only [put_append, List.length_append] at this
  omega
/-- The first line feed. -/
theorem nl_cases (b : Bs) : (10 : UInt8) ∉ b ∨ ∃ a r, b = a ++ 10 :: r ∧ (10 : UInt8) ∉ a := by
  induction b with
  | nil => exact .inl (by simp)
  | cons c b ih =>
    by_cases h : c = 10
    · subst h
      exact .inr ⟨[], b, rfl, by simp⟩
    · rcases ih with ih | ⟨a, r, rfl, ha⟩
      · exact .inl (by simp [ih, Ne.symm h])
      · exact .inr ⟨c :: a, r, rfl, by simp [ha, Ne.symm h]⟩
theorem lineGo_nl {a : Bs} (h : (10 : UInt8) ∉ a) (r : Bs) : ∀ acc, lineGo acc (a ++ 10 :: r) = (acc ++ a) :: linesOf r := by
  induction a with
  | nil => intro acc; simp [lineGo, linesOf]
  | cons c a ih =>
    intro acc
    simp only [List.mem_cons, not_or] at h
    show lineGo acc (c :: (a ++ 10 :: r)) = _
    unfold lineGo
    rw [if_neg (fun e => h.1 e.symm), ih h.2]
    simp
theorem lineGo_no {a : Bs} (h : (10 : UInt8) ∉ a) : ∀ acc, lineGo acc a = if acc ++ a = [] then [] else [acc ++ a] := by
  induction a with
  | nil => intro acc; simp [lineGo]
  | cons c a ih =>
    intro acc
    simp only [List.mem_cons, not_or] at h
    unfold lineGo
    rw [if_neg (fun e => h.1 e.symm), ih h.2]
    simp
theorem linesOf_nl {a : Bs} (h : (10 : UInt8) ∉ a) (r : Bs) : linesOf (a ++ 10 :: r) = a :: linesOf r := by
  unfold linesOf
  rw [lineGo_nl h]; rfl
theorem linesOf_no {a : Bs} (h : (10 : UInt8) ∉ a) (h0 : a ≠ []) : linesOf a = [a] := by
  unfold linesOf
  rw [lineGo_no h]; simp [h0]
theorem linesOf_nil : linesOf [] = [] := rfl
theorem linesOf_append {l : List Bs} (h : NoNl l) (b : Bs) : linesOf (put l ++ b) = l ++ linesOf b := by
  induction l with
  | nil => rfl
  | cons s r ih =>
    have := ih (fun x hx => h x (by simp [hx]))
    show linesOf (s ++ 10 :: put r ++ b) = _
    rw [List.append_assoc, List.cons_append, linesOf_nl (h s (by simp)), this]
    rfl
theorem linesOf_put {l : List Bs} (h : NoNl l) : linesOf (put l) = l := by
  have := linesOf_append h []
  simpa [linesOf_nil] using this
/-- By the first line feed. -/
theorem line_ind {P : Bs → Prop} (h0 : P []) (h1 : ∀ a, (10 : UInt8) ∉ a → a ≠ [] → P a) (h2 : ∀ a r, (10 : UInt8) ∉ a → P r → P (a ++ 10 :: r)) : ∀ b, P b := by
  intro b
  generalize hn : b.length = n
  induction n using Nat.strongRecOn generalizing b with
  | ind n ih =>
    rcases nl_cases b with h | ⟨a, r, rfl, ha⟩
    · by_cases hb : b = []
      · subst hb; exact h0
      · exact h1 b h hb
    · refine h2 a r ha (ih r.length ?_ r rfl)
      subst hn
      simp
      omega
theorem linesOf_no10 (b : Bs) : NoNl (linesOf b) := by
  induction b using line_ind with
  | h0 => intro s hs; cases hs
  | h1 a h h0 => rw [linesOf_no h h0]; intro s hs; simp at hs; subst hs; exact h
  | h2 a r h ih =>
    rw [linesOf_nl h]
    intro s hs
    rcases List.mem_cons.1 hs with rfl | hs
    · exact h
    · exact ih s hs
/-- Is the last line ended? -/
def ended (b : Bs) : Prop := b = [] ∨ b.getLast? = some 10
theorem put_ended (l : List Bs) : ended (put l) := by
  induction l with
  | nil => exact .inl rfl
  | cons s r ih =>
    right
    show (s ++ 10 :: put r).getLast? = _
    rcases ih with h | h
    · rw [h]; simp
    · rw [List.getLast?_append, List.getLast?_cons, h]; simp
theorem whole_eq (b : Bs) : whole b = b ∧ ended b ∨ whole b = b ++ [10] ∧ ¬ ended b := by
  induction b using line_ind with
  | h0 => exact .inl ⟨rfl, .inl rfl⟩
  | h1 a h h0 =>
    right
    unfold whole
    rw [linesOf_no h h0]
    refine ⟨rfl, ?_⟩
    rintro (h1 | h1)
    · exact h0 h1
    · exact h (List.mem_of_getLast? h1)
  | h2 a r h ih =>
    unfold whole at ih ⊢
    rw [linesOf_nl h]
    rcases ih with ⟨e1, e2⟩ | ⟨e1, e2⟩
    · left
      refine ⟨by rw [put, e1], .inr ?_⟩
      rcases e2 with e2 | e2
      · rw [e2]; simp
      · rw [List.getLast?_append, List.getLast?_cons, e2]; simp
    · right
      refine ⟨by rw [put, e1]; simp, ?_⟩
      rintro (h1 | h1)
      · simp at h1
      · apply e2
        by_cases hr : r = []
        · exact .inl hr
        · right
          rw [List.getLast?_append, List.getLast?_cons] at h1
          cases hl : r.getLast? with
          | none => exact absurd (List.getLast?_eq_none_iff.1 hl) hr
          | some x => rw [hl] at h1; simpa using h1
theorem whole_len (b : Bs) : (whole b).length ≤ b.length + 1 := by
  rcases whole_eq b with h | h <;> rw [h.1] <;> simp
theorem put_len {l : List Bs} {n : Nat} (h : (put l).length ≤ n) : l.length ≤ n := by
  induction l generalizing n with
  | nil => simp
  | cons s r ih =>
    simp only [put, List.length_append, List.length_cons] at h ⊢
    have := ih (n := n - 1) (by omega)
    omega
theorem linesOf_len (b : Bs) : (linesOf b).length ≤ b.length := by
  induction b using line_ind with
  | h0 => simp [linesOf_nil]
  | h1 a h h0 =>
    rw [linesOf_no h h0]
    have : a.length ≠ 0 := fun e => h0 (List.length_eq_zero_iff.1 e)
    simp; omega
  | h2 a r h ih => rw [linesOf_nl h]; simp; omega
theorem linesOf_el (b : Bs) : ∀ s ∈ linesOf b, s.length ≤ b.length := by
  induction b using line_ind with
  | h0 => intro s hs; cases hs
  | h1 a h h0 => rw [linesOf_no h h0]; intro s hs; simp at hs; subst hs; exact Nat.le_refl _
  | h2 a r h ih =>
    rw [linesOf_nl h]
    intro s hs
    rcases List.mem_cons.1 hs with rfl | hs
    · simp
    · have := ih s hs
      simp; omega
theorem put_len_el {l : List Bs} {s : Bs} (h : s ∈ l) : s.length + 1 ≤ (put l).length := by
  induction l with
  | nil => cases h
  | cons x r ih =>
    simp only [put, List.length_append, List.length_cons]
    rcases List.mem_cons.1 h with rfl | h
    · omega
    · have := ih h
      omega
/-- Cut at the first line feed. -/
def cutNl (b : Bs) : Bs × Bs × Bool := (b.takeWhile (· != 10), (b.dropWhile (· != 10)).tail, b.contains 10)
theorem cutNl_no {b : Bs} (h : (10 : UInt8) ∉ b) : cutNl b = (b, [], false) := by
  have h1 : b.takeWhile (· != 10) = b := by
    have := List.takeWhile_append_of_pos (p := (· != (10 : UInt8))) (l₁ := b) (l₂ := []) (fun x hx => by
      have : x ≠ 10 := fun e => h (e ▸ hx)
      simpa using this)
    simpa using this
  have h2 : b.dropWhile (· != 10) = [] := by
    have := List.takeWhile_append_dropWhile (p := (· != (10 : UInt8))) (l := b)
    rw [h1] at this
    simpa using this
  unfold cutNl
  rw [h1, h2]
  simpa using h
theorem cutNl_nl {a : Bs} (h : (10 : UInt8) ∉ a) (r : Bs) : cutNl (a ++ 10 :: r) = (a, r, true) := by
  have hp : ∀ x ∈ a, (x != 10) = true := fun x hx => by
    have : x ≠ 10 := fun e => h (e ▸ hx)
    simpa using this
  unfold cutNl
  rw [List.takeWhile_append_of_pos hp, List.dropWhile_append_of_pos hp]
  simp
theorem linesOf_cut {b : Bs} (h : b ≠ []) : linesOf b = (cutNl b).1 :: linesOf (cutNl b).2.1 := by
  rcases nl_cases b with h1 | ⟨a, r, rfl, ha⟩
  · rw [cutNl_no h1, linesOf_no h1 h]; rfl
  · rw [cutNl_nl ha, linesOf_nl ha]
theorem cut_len {b : Bs} (h : b ≠ []) : (cutNl b).2.1.length < b.length ∧ (cutNl b).1.length ≤ b.length := by
  rcases nl_cases b with h1 | ⟨a, r, rfl, ha⟩
  · rw [cutNl_no h1]
    exact ⟨by simpa using List.length_pos_iff.2 h, Nat.le_refl _⟩
  · rw [cutNl_nl ha]
    simp; omega
/-- Parts of whole lines. -/
def part (l : List Bs) (n k : Nat) : List Bs := (l.take ((k + 1) * l.length / n)).drop (k * l.length / n)
def splitLines (l : List Bs) (n : Nat) : List Bs := (List.range n).map fun k => put (part l n k)
theorem part_bnd (m n k : Nat) (hn : 0 < n) : k * m / n + m / n ≤ (k + 1) * m / n ∧ (k + 1) * m / n ≤ k * m / n + m / n + 1 := by
  have e1 := Nat.div_add_mod (k * m) n
  have e2 := Nat.mod_lt (k * m) hn
  have e3 := Nat.div_add_mod m n
  have e4 := Nat.mod_lt m hn
  have e5 := Nat.div_add_mod ((k + 1) * m) n
  have e6 := Nat.mod_lt ((k + 1) * m) hn
  have e7 : (k + 1) * m = k * m + m := by rw [Nat.succ_mul]
  rw [e7] at e5 e6 ⊢
  generalize k * m = a at *
  generalize ha : a / n = qa at *
  generalize hm : m / n = qm at *
  generalize hs : (a + m) / n = qs at *
  generalize a % n = ra at *
  generalize m % n = rm at *
  generalize (a + m) % n = rs at *
  constructor
  · apply Nat.le_of_lt_succ
    apply Nat.lt_of_mul_lt_mul_left (a := n)
    rw [Nat.mul_add, Nat.mul_succ]
    omega
  · apply Nat.le_of_lt_succ
    apply Nat.lt_of_mul_lt_mul_left (a := n)
    have : n * (qa + qm + 1).succ = n * qa + n * qm + n + n := by
      rw [Nat.mul_succ, Nat.mul_add, Nat.mul_add]; omega
    rw [this]
    omega
theorem part_len (l : List Bs) (n k : Nat) (hn : 0 < n) (hk : k < n) : l.length / n ≤ (part l n k).length ∧ (part l n k).length ≤ l.length / n + 1 ∧ (part l n k).length ≤ l.length := by
  have h1 := part_bnd l.length n k hn
  have h2 : (k + 1) * l.length / n ≤ l.length := by
    apply Nat.div_le_of_le_mul
    exact Nat.mul_le_mul_right _ hk
  unfold part
  simp only [List.length_drop, List.length_take]
  generalize k * l.length / n = a at *
  generalize (k + 1) * l.length / n = b at *
  generalize l.length / n = c at *
  omega
theorem part_cat (l : List Bs) (n k : Nat) (hn : 0 < n) : l.take (k * l.length / n) ++ part l n k = l.take ((k + 1) * l.length / n) := by
  have h1 := part_bnd l.length n k hn
  unfold part
  have : l.take (k * l.length / n) = (l.take ((k + 1) * l.length / n)).take (k * l.length / n) := by
    rw [List.take_take]; congr 1
    generalize k * l.length / n = a at *
    generalize (k + 1) * l.length / n = b at *
    generalize l.length / n = c at *
    omega
  rw [this, List.take_append_drop]
theorem part_no {l : List Bs} (h : NoNl l) (n k : Nat) : NoNl (part l n k) := fun s hs => h s (List.mem_of_mem_take (List.mem_of_mem_drop hs))
end Gp
end PartP1
section PartP2
/-! Commands, lines of a script, graphs, plans: in plain words. -/
namespace Gp
structure Cmd where
  kind : Int
  word : Bs
  n : Int
  deriving DecidableEq
structure LineS where
  frm : List Bs
  cmds : List Cmd
  to : Bs
  deriving DecidableEq
structure Port where
  node : Int
  out : Int
  deriving DecidableEq
structure Node where
  kind : Int
  file : Bs
  c : Cmd
  how : Int
  wide : Int
  ins : List Port
  deriving DecidableEq
def wordByte (c : UInt8) : Bool := (decide (97 ≤ c.toNat) && decide (c.toNat ≤ 122)) || (decide (48 ≤ c.toNat) && decide (c.toNat ≤ 57))
def isWord (s : Bs) : Bool := decide (s ≠ []) && decide (s.length ≤ 12) && s.all wordByte
def useWord (c : Cmd) : Bool := decide (c.kind = 1) || decide (c.kind = 2) || decide (c.kind = 3)
def useN (c : Cmd) : Bool := decide (c.kind = 4) || decide (c.kind = 9) || decide (c.kind = 10)
def checkCmd (c : Cmd) : Int :=
  if c.kind < 1 ∨ 10 < c.kind then 4
  else if (useWord c = false ∧ c.word ≠ []) ∨ (useN c = false ∧ c.n ≠ 0) then 4
  else if useN c = true ∧ (c.n < 1 ∨ 1000 < c.n) then 3
  else if (useWord c = true ∧ isWord c.word = false) ∨ (c.kind = 3 ∧ c.word.length ≠ 2) then 1
  else 0
def firstBad : List Cmd → Int
  | [] => 0
  | c :: r => if checkCmd c = 0 then firstBad r else checkCmd c
def checkLine (l : LineS) : Int :=
  if l.frm.length = 0 ∨ 4 < l.frm.length ∨ 6 < l.cmds.length then 2
  else if (l.frm ++ [l.to]).all isWord = false then 1
  else firstBad l.cmds
def each (c : Cmd) : Bool := decide (1 ≤ c.kind) && decide (c.kind ≤ 5)
def howFor (c : Cmd) : Int := if c.kind = 6 then 2 else if c.kind = 8 then 3 else if c.kind = 7 ∨ c.kind = 9 ∨ c.kind = 10 then 4 else 1
theorem firstBad_at : ∀ {l : List Cmd}, firstBad l = 0 → ∀ c ∈ l, checkCmd c = 0
  | [], h, c, hc => by cases hc
  | c :: r, h, x, hx => by
    unfold firstBad at h
    split at h
    · rename_i h1
      rcases List.mem_cons.1 hx with rfl | hx
      · exact h1
      · exact firstBad_at h x hx
    · rename_i h1; exact absurd h h1
/-! ### Plans -/
def zCmd : Cmd := ⟨0, [], 0⟩
def srcN (f : Bs) : Node := ⟨1, f, zCmd, 0, 0, []⟩
def splitN (w : Int) (ins : List Port) : Node := ⟨2, [], zCmd, 0, w, ins⟩
def workN (c : Cmd) (ins : List Port) : Node := ⟨3, [], c, 0, 0, ins⟩
def joinN (how : Int) (c : Cmd) (ins : List Port) : Node := ⟨4, [], c, how, 0, ins⟩
def sinkN (f : Bs) (ins : List Port) : Node := ⟨5, f, zCmd, 0, 0, ins⟩
structure Desk where
  nodes : List Node
  cur : List Port
def Desk.src (d : Desk) (f : Bs) : Desk := ⟨d.nodes ++ [srcN f], d.cur ++ [⟨d.nodes.length, 0⟩]⟩
def Desk.behind (d : Desk) : Desk := if 1 < d.cur.length then ⟨d.nodes ++ [joinN 1 zCmd d.cur], [⟨d.nodes.length, 0⟩]⟩ else d
def ports (i : Int) (n : Nat) : List Port := (List.range n).map fun (k : Nat) => ⟨i, (k : Int)⟩
def outs (i : Int) (n : Nat) : List Port := (List.range n).map fun (k : Nat) => ⟨i + (k : Int), 0⟩
def Desk.wide (d : Desk) (n : Int) : Desk := if 1 < d.cur.length ∨ n = 1 then d else ⟨d.nodes ++ [splitN n d.cur], ports d.nodes.length n.toNat⟩
def Desk.work (d : Desk) (c : Cmd) : Desk := ⟨d.nodes ++ d.cur.map fun p => workN c [p], outs d.nodes.length d.cur.length⟩
def Desk.fin (d : Desk) (c : Cmd) : Desk := ⟨d.nodes ++ [joinN (howFor c) (if howFor c = 4 then c else zCmd) d.cur], [⟨d.nodes.length, 0⟩]⟩
def Desk.step (wide : Int) (d : Desk) (c : Cmd) : Desk := if each c = true ∨ wide = 1 then (d.wide wide).work c else ((d.wide wide).work c).fin c
def srcs (l : List Bs) : Desk := l.foldl Desk.src ⟨[], []⟩
def steps (wide : Int) (d : Desk) (l : List Cmd) : Desk := l.foldl (Desk.step wide) d
def planDesk (l : LineS) (wide : Int) : Desk := (steps wide (srcs l.frm).behind l.cmds).behind
def planNodes (l : LineS) (wide : Int) : List Node := (planDesk l wide).nodes ++ [sinkN l.to (planDesk l wide).cur]
def plan (l : LineS) (wide : Int) : List Node × Int :=
  if checkLine l ≠ 0 then ([], checkLine l) else if wide < 1 ∨ 5 < wide then ([], 3) else (planNodes l wide, 0)
theorem ports_len (i : Int) (n : Nat) : (ports i n).length = n := by simp [ports]
theorem outs_len (i : Int) (n : Nat) : (outs i n).length = n := by simp [outs]
theorem ports_succ (i : Int) (n : Nat) : ports i (n + 1) = ports i n ++ [⟨i, (n : Int)⟩] := by simp [ports, List.range_succ]
theorem outs_succ (i : Int) (n : Nat) : outs i (n + 1) = outs i n ++ [⟨i + (n : Int), 0⟩] := by simp [outs, List.range_succ]
theorem srcs_take {l : List Bs} {i : Nat} (h : i < l.length) : srcs (l.take (i + 1)) = (srcs (l.take i)).src l[i] := by
  unfold srcs
  rw [List.take_succ_eq_append_getElem h, List.foldl_append]
  rfl
theorem steps_take {w : Int} {d : Desk} {l : List Cmd} {i : Nat} (h : i < l.length) : steps w d (l.take (i + 1)) = (steps w d (l.take i)).step w l[i] := by
  unfold steps
  rw [List.take_succ_eq_append_getElem h, List.foldl_append]
  rfl
/-- How many nodes are of a kind. -/
def cnt (k : Int) (l : List Node) : Nat := (l.filter fun n => decide (n.kind = k)).length
theorem cnt_append (k : Int) (a b : List Node) : cnt k (a ++ b) = cnt k a + cnt k b := by simp [cnt]
theorem cnt_snoc (k : Int) (a : List Node) (n : Node) : cnt k (a ++ [n]) = cnt k a + (if n.kind = k then 1 else 0) := by
  rw [cnt_append]
  by_cases h : n.kind = k <;> simp [cnt, h]
theorem cnt_work (k : Int) (c : Cmd) (l : List Port) : cnt k (l.map fun p => workN c [p]) = if k = 3 then l.length else 0 := by
  induction l with
  | nil => simp [cnt]
  | cons p l ih =>
    rw [List.map_cons, show (workN c [p] :: l.map fun p => workN c [p]) = [workN c [p]] ++ l.map (fun p => workN c [p]) from rfl, cnt_append, ih]
    by_cases h : k = 3
    · subst h; simp [cnt, workN]; omega
    · have h' : ¬ (3 : Int) = k := fun e => h e.symm
      simp [cnt, workN, h, h']
theorem srcs_len (l : List Bs) : (srcs l).nodes.length = l.length ∧ (srcs l).cur.length = l.length ∧ ∀ k, cnt k (srcs l).nodes = if k = 1 then l.length else 0 := by
  suffices h : ∀ (l : List Bs) (d : Desk), (l.foldl Desk.src d).nodes.length = d.nodes.length + l.length ∧ (l.foldl Desk.src d).cur.length = d.cur.length + l.length ∧ ∀ k, cnt k (l.foldl Desk.src d).nodes = cnt k d.nodes + if k = 1 then l.length else 0 by
    have := h l ⟨[], []⟩
    simpa [srcs, cnt] using this
  intro l
  induction l with
  | nil => intro d; simp
  | cons f l ih =>
    intro d
    obtain ⟨h1, h2, h3⟩ := ih (d.src f)
    refine ⟨?_, ?_, fun k => ?_⟩
    · rw [List.foldl_cons, h1]; simp [Desk.src]; omega
    · rw [List.foldl_cons, h2]; simp [Desk.src]; omega
    · rw [List.foldl_cons, h3]
      simp only [Desk.src, cnt_snoc, srcN, List.length_cons]
      by_cases h : k = 1
      · subst h; simp; omega
      · have h' : ¬ (1 : Int) = k := fun e => h e.symm
        simp [h, h']
/-- All Splits are so wide. -/
def SplitsW (wide : Int) (l : List Node) : Prop := ∀ n ∈ l, n.kind = 2 → n.wide = wide
/-- A desk at work, `i` commands behind. -/
structure DeskOK (l : LineS) (wide : Int) (i : Nat) (d : Desk) : Prop where
  len : d.nodes.length ≤ 5 + 7 * i
  cur : d.cur.length = 1 ∨ (d.cur.length : Int) = wide
  c1 : cnt 1 d.nodes = l.frm.length
  c5 : cnt 5 d.nodes = 0
  c3 : (cnt 3 d.nodes : Int) = wide * i
  c2 : wide = 1 → cnt 2 d.nodes = 0
  sp : SplitsW wide d.nodes
theorem desk_start {l : LineS} {wide : Int} (h : 1 ≤ l.frm.length ∧ l.frm.length ≤ 4) : DeskOK l wide 0 (srcs l.frm).behind := by
  obtain ⟨h1, h2, h3⟩ := srcs_len l.frm
  have hsp : SplitsW wide (srcs l.frm).nodes := by
    intro n hn hk
    have := h3 2
    simp at this
    unfold cnt at this
    rw [List.length_eq_zero_iff, List.filter_eq_nil_iff] at this
    exact absurd hk (by simpa using this n hn)
  unfold Desk.behind
  split
  · refine ⟨by simp; omega, .inl rfl, ?_, ?_, ?_, ?_, ?_⟩ <;> simp only [cnt_snoc, h3, joinN]
    · simp
    · simp
    · simp
    · simp
    · intro n hn hk
      rcases List.mem_append.1 hn with hn | hn
      · exact hsp n hn hk
      · simp at hn; subst hn; simp [joinN] at hk
  · refine ⟨by omega, .inl (by omega), ?_, ?_, ?_, ?_, hsp⟩ <;> simp only [h3]
    · simp
    · simp
    · simp
    · simp
theorem desk_wide {l : LineS} {wide : Int} {i : Nat} {d : Desk} (h : DeskOK l wide i d) (hw : 1 ≤ wide ∧ wide ≤ 5) : ((d.wide wide).cur.length : Int) = wide ∧ (d.wide wide).nodes.length ≤ 6 + 7 * i ∧ cnt 1 (d.wide wide).nodes = l.frm.length ∧ cnt 5 (d.wide wide).nodes = 0 ∧ (cnt 3 (d.wide wide).nodes : Int) = wide * i ∧ (wide = 1 → cnt 2 (d.wide wide).nodes = 0) ∧ SplitsW wide (d.wide wide).nodes := by
  have hl := h.len
  have hc := h.cur
  unfold Desk.wide
  split
  · refine ⟨by omega, by omega, h.c1, h.c5, h.c3, h.c2, h.sp⟩
  · refine ⟨by rw [ports_len]; omega, by simp; omega, ?_, ?_, ?_, ?_, ?_⟩
    · simp [cnt_snoc, splitN, h.c1]
    · simp [cnt_snoc, splitN, h.c5]
    · simp [cnt_snoc, splitN, h.c3]
    · intro h1; omega
    · intro n hn hk
      rcases List.mem_append.1 hn with hn | hn
      · exact h.sp n hn hk
      · simp at hn; subst hn; rfl
theorem desk_step {l : LineS} {wide : Int} {i : Nat} {d : Desk} (h : DeskOK l wide i d) (hw : 1 ≤ wide ∧ wide ≤ 5) (c : Cmd) : DeskOK l wide (i + 1) (d.step wide c) := by
  obtain ⟨h1, h2, h3, h4, h5, h6, h7⟩ := desk_wide h hw
  unfold Desk.step
  generalize d.wide wide = e at *
  have hw1 : ∀ k, cnt k (e.work c).nodes = cnt k e.nodes + if k = 3 then e.cur.length else 0 := fun k => by
    simp only [Desk.work, cnt_append, cnt_work]
  have hsp : SplitsW wide (e.work c).nodes := by
    intro n hn hk
    rcases List.mem_append.1 hn with hn | hn
    · exact h7 n hn hk
    · obtain ⟨p, _, rfl⟩ := List.mem_map.1 hn
      simp [workN] at hk
  have hlen : (e.work c).nodes.length = e.nodes.length + e.cur.length := by simp [Desk.work]
  have hcur : (e.work c).cur.length = e.cur.length := by simp [Desk.work, outs_len]
  have h3w : (cnt 3 (e.work c).nodes : Int) = wide * ((i + 1 : Nat) : Int) := by
    have := hw1 3
    simp only [if_true] at this
    rw [this, Int.natCast_add, h5, h1, Int.natCast_add, Int.mul_add]
    simp
  split
  · refine ⟨by omega, .inr (by omega), by simpa [h3] using hw1 1, by simpa [h4] using hw1 5, h3w, fun e1 => by simpa [h6 e1] using hw1 2, hsp⟩
  · refine ⟨by simp [Desk.fin]; omega, .inl rfl, ?_, ?_, ?_, ?_, ?_⟩
    · simp [Desk.fin, cnt_snoc, joinN, hw1, h3]
    · simp [Desk.fin, cnt_snoc, joinN, hw1, h4]
    · have : cnt 3 ((e.work c).fin c).nodes = cnt 3 (e.work c).nodes := by simp [Desk.fin, cnt_snoc, joinN]
      rw [this]; exact h3w
    · intro e1; simp [Desk.fin, cnt_snoc, joinN, hw1, h6 e1]
    · intro n hn hk
      rcases List.mem_append.1 hn with hn | hn
      · exact hsp n hn hk
      · simp at hn; subst hn; simp [joinN] at hk
theorem steps_ok {l : LineS} {wide : Int} (h : 1 ≤ l.frm.length ∧ l.frm.length ≤ 4) (hw : 1 ≤ wide ∧ wide ≤ 5) (i : Nat) (hi : i ≤ l.cmds.length) : DeskOK l wide i (steps wide (srcs l.frm).behind (l.cmds.take i)) := by
  induction i with
  | zero => simpa [steps] using desk_start h
  | succ i ih =>
    rw [steps_take (by omega)]
    exact desk_step (ih (by omega)) hw _
theorem plan_shape {l : LineS} {wide : Int} (h : 1 ≤ l.frm.length ∧ l.frm.length ≤ 4) (hw : 1 ≤ wide ∧ wide ≤ 5) : cnt 1 (planNodes l wide) = l.frm.length ∧ cnt 5 (planNodes l wide) = 1 ∧ (cnt 3 (planNodes l wide) : Int) = wide * l.cmds.length ∧ (wide = 1 → cnt 2 (planNodes l wide) = 0) ∧ SplitsW wide (planNodes l wide) := by
  have D := steps_ok h hw l.cmds.length (Nat.le_refl _)
  rw [List.take_length] at D
  unfold planNodes planDesk
  generalize steps wide (srcs l.frm).behind l.cmds = d at *
  have hb : ∀ k, k ≠ 4 → cnt k d.behind.nodes = cnt k d.nodes := fun k hk => by
    unfold Desk.behind
    split
    · have h' : ¬ (4 : Int) = k := fun e => hk e.symm
      simp [cnt_snoc, joinN, h']
    · rfl
  have hsp : SplitsW wide d.behind.nodes := by
    unfold Desk.behind
    split
    · intro n hn hk
      rcases List.mem_append.1 hn with hn | hn
      · exact D.sp n hn hk
      · simp at hn; subst hn; simp [joinN] at hk
    · exact D.sp
  refine ⟨?_, ?_, ?_, ?_, ?_⟩
  · simp [cnt_snoc, sinkN, hb, D.c1]
  · simp [cnt_snoc, sinkN, hb, D.c5]
  · simp [cnt_snoc, sinkN, hb, D.c3]
  · intro e; simp [cnt_snoc, sinkN, hb, D.c2 e]
  · intro n hn hk
    rcases List.mem_append.1 hn with hn | hn
    · exact hsp n hn hk
    · simp at hn; subst hn; simp [sinkN] at hk
end Gp
end PartP2
section PartEnc
/-! What the program's data read as. -/
namespace Gv
open Go Gp
def blV (l : List UInt8) : V := .sl byteV l
def idxB (l : List UInt8) (c : UInt8) : Int := Lib.indexByte l c
def intV (n : Int) : V := .int .i64 n
def cmdV (c : Cmd) : V := .agg [.int .i64 c.kind, .str c.word, .int .i64 c.n]
noncomputable def lineV (l : LineS) : V := .agg [.sl strV l.frm, .sl cmdV l.cmds, .str l.to]
def portV (p : Port) : V := .agg [.int .i64 p.node, .int .i64 p.out]
def nodeV (n : Gp.Node) : V := .agg [.int .i64 n.kind, .str n.file, .int .i64 n.c.kind, .str n.c.word, .int .i64 n.c.n, .int .i64 n.how, .int .i64 n.wide, .sl portV n.ins]
structure PipeS where
  b : List UInt8
  room : Int
  closed : Bool
  shut : Bool
def pipeV (p : PipeS) : V := .agg [.sl byteV p.b, .int .i64 p.room, .bool p.closed, .bool p.shut]
/-- A file with its bytes. -/
structure FileS where
  name : Bs
  b : Bs
  deriving DecidableEq
def fileV (f : FileS) : V := .agg [.str f.name, .sl byteV f.b]
end Gv
end PartEnc
section PartAd
/-! The library's words at strings as lists of bytes. -/
namespace Gv
open Go Go.RowKit Gw Gp
variable [Glob]
abbrev ba (s : Bs) : ByteArray := ⟨s.toArray⟩
theorem ba_data (s : Bs) : (ba s).data.toList = s := rfl
theorem ba_size (s : Bs) : (ba s).size = s.length := by simp [ba, ByteArray.size]
theorem str_ba (s : Bs) : Gw.str s = .string (ba s) := rfl
theorem vr_str {m : Mem} {q : Loc} {s : Bs} {u : Value} (h : VR m q (.str s) u) : u = Gw.str s ∧ s.length ≤ MAXL := by
  cases h with | str h => exact ⟨rfl, h⟩
theorem strs_open {w : World} {m : Mem} {q : Loc} {l : List Bs} {u : Value} (h : VR m q (.sl strV l) u) (hm : Sub m w) : ∃ p c, u = .slice p l.length c ∧ l.length ≤ c ∧ c ≤ MAXL ∧
    (l ≠ [] → ∃ b o, p = some ⟨b, o, none⟩ ∧ b < w.heap.size ∧ (∀ (j : Nat) x, l[j]? = some x → w.cell? ⟨b, o + j, none⟩ = some (Gw.str x)) ∧ ∀ x ∈ l, x.length ≤ MAXL) := by
  cases h with
  | @sl0 _ _ _ oa cap hc h0 => exact ⟨oa, cap, rfl, by simp, hc, fun h => absurd rfl h⟩
  | @sl _ _ _ _ b off arr T fz cap k us h1 h2 h3 h4 h5 h6 =>
    refine ⟨_, _, rfl, h1, h2, fun hne => ⟨b, off, rfl, hm.lt h3, fun j x hx => ?_, fun x hx => ?_⟩⟩
    · have hj : j < l.length := (List.getElem?_eq_some_iff.1 hx).1
      have hxe : l[j] = x := (List.getElem?_eq_some_iff.1 hx).2
      have hk : k = 1 := by rw [← h4 j hj]; rfl
      subst hk
      have e := h5 j hj 0 (strV l[j]) (by simp [strV, V.cells])
      have e2 := h6 j hj 0 (strV l[j]) (by simp [strV, V.cells])
      have e3 := (vr_str e2).1
      have hb := hm _ _ h3
      simp only [World.cell?, hb, Option.isSome_none, Bool.false_eq_true, if_false]
      rw [show off + j = off + j * 1 + 0 by omega, e.1, e3, hxe]
    · obtain ⟨j, hj, rfl⟩ := List.getElem_of_mem hx
      exact (vr_str (h6 j hj 0 (strV l[j]) (by simp [strV, V.cells]))).2
/-- A new row of strings. -/
theorem strs_new {w w' : World} {m : Mem} {l : List Bs} {T : TypeId} (hb : w'.heap[w.heap.size]? = some (.cells (l.map Gw.str).toArray T)) (hl : l.length ≤ MAXL) (hx : ∀ x ∈ l, x.length ≤ MAXL) :
    VR (grow m w w') noLoc (.sl strV l) (.slice (some ⟨w.heap.size, 0, none⟩) l.length l.length) := by
  have hc : ∀ j x, l[j]? = some x → ((l.map Gw.str).toArray)[0 + j * 1 + 0]? = some (Gw.str x) := fun j x hx => by
    rw [show 0 + j * 1 + 0 = j by omega, List.getElem?_toArray, List.getElem?_map, hx]; rfl
  refine .sl (k := 1) (off := 0) (fun i j => Gw.str (l.getD i [])) (Nat.le_refl _) hl (show grow m w w' _ = _ by unfold grow; rw [if_neg (by omega)]; exact hb) (fun i h => rfl) (fun i h j v e => ?_) (fun i h j v e => ?_)
  · have hj : j = 0 := by
      rcases Nat.eq_zero_or_pos j with h | h
      · exact h
      · rw [List.getElem?_eq_none (by simp [strV, V.cells]; omega)] at e; cases e
    subst hj
    refine ⟨?_, rfl⟩
    rw [hc i l[i] (List.getElem?_eq_getElem h)]
    simp [h]
  · have hj : j = 0 := by
      rcases Nat.eq_zero_or_pos j with h | h
      · exact h
      · rw [List.getElem?_eq_none (by simp [strV, V.cells]; omega)] at e; cases e
    subst hj
    obtain rfl : V.str l[i] = v := by simpa [strV, V.cells] using e
    have : l.getD i [] = l[i] := by simp [h]
    rw [this]
    exact .str (hx _ (List.getElem_mem h))
theorem splitK_le (sep : Bs) : ∀ (k : Nat) (s : Bs), ∀ x ∈ Lib.splitK sep 0 k s, x.length ≤ s.length
  | 0, s, x, hx => by simp [Lib.splitK] at hx; subst hx; exact Nat.le_refl _
  | k + 1, s, x, hx => by
    unfold Lib.splitK at hx
    split at hx
    · simp at hx; subst hx; exact Nat.le_refl _
    · rcases List.mem_cons.1 hx with rfl | hx
      · simp; omega
      · have := splitK_le sep k _ x hx
        simp at this; omega
theorem split_len (s sep : Bs) (h : 1 ≤ sep.length) : (Lib.split s sep).length = Lib.count s sep + 1 := by
  have h1 := Lib.splitB_all (ba sep) (by rw [ba_size]; exact h) 0 (Lib.count s sep) (ba s) rfl
  have e := congrArg List.length (Lib.splitB_data (ba sep) 0 (Lib.count s sep) (ba s))
  rw [List.length_map, h1] at e
  exact e.symm
theorem split_cells (s sep : Bs) : List.map Value.string (Lib.splitB (ba sep) 0 (Lib.countB (ba s) (ba sep)) (ba s)) = (Lib.split s sep).map Gw.str := by
  have e := Lib.splitB_data (ba sep) 0 (Lib.countB (ba s) (ba sep)) (ba s)
  have e2 : Lib.split s sep = (Lib.splitB (ba sep) 0 (Lib.countB (ba s) (ba sep)) (ba s)).map (·.data.toList) := e.symm
  rw [e2, List.map_map]
  refine List.map_congr_left fun x hx => ?_
  show Value.string x = Value.string ⟨x.data.toList.toArray⟩
  simp
end Gv
end PartAd
section PartAny
namespace Gv
open Go Go.RowKit Gw
variable [Glob]
/-! A drawn region, whose operations come in whatever order, by what is kept. -/
section
variable {w0 : Start} {m0 mb : Mem} {qb : Loc} {n : Nat} {E : Env} {L : VSlots} {rows : Rows} {ops : Array Oper} {Q : Exit → Act → World → Prop} {a : Act} {w : World}
def setF (sel : Nat → Bool) (i : Nat) : Nat → Bool := fun k => Nat.beq k i || sel k
theorem setF_eq (sel : Nat → Bool) (i : Nat) : setF sel i i = true := by unfold setF; rw [Nat.beq_refl]; rfl
theorem setF_ne {sel : Nat → Bool} {i k : Nat} (h : sel k = true) : setF sel i k = true := by unfold setF; rw [h]; simp
theorem setF_inv {sel : Nat → Bool} {i k : Nat} (h : setF sel i k = true) : k = i ∨ sel k = true := by
  unfold setF at h
  rw [Bool.or_eq_true] at h
  exact h.imp Nat.eq_of_beq_eq_true id
def backB (ops : Array Oper) : Bool := (List.range ops.size).all fun j => match ops[j]? with
  | some o => o.after.toList.all fun e => !Region.binds .any e || Nat.blt e.on j
  | none => true
def AnyStep (E : Env) (call : CallT) (ops : Array Oper) (Inv : (Nat → Bool) → VSlots → Rows → Prop) : Prop :=
  ∀ sel L rows i o, ops[i]? = some o → sel i = false → (∀ e ∈ o.after, Region.binds .any e = true → sel e.on = true) → Inv sel L rows → o.guard = none ∧ xop E call true L rows o.op fun v rows' => Inv (setF sel i) (putV o.dst v L) rows'
theorem any_user (H : EnvOK E) {call : CallT} (HC : CallOK E call) {id : Nat} (hd : dstsL n ops.toList = true) (hback : backB ops = true) {Inv : (Nat → Bool) → VSlots → Rows → Prop} (h0 : Inv (fun _ => false) L rows) (step : AnyStep E call ops Inv)
    (done : ∀ sel L rows a w, (∀ i, i < ops.size → sel i = true) → Inv sel L rows → SIM w0 m0 mb qb n L rows a w → Q .normal a w)
    (S : SIM w0 m0 mb qb n L rows a w) : (Code.region id ops true).wp E.P Q a w := by
  have hdst : ∀ (i : Nat) o, ops[i]? = some o → ∀ t, o.dst = some t → t < n := fun i o ho t ht => by
    have key : ∀ (l : List Oper), dstsL n l = true → o ∈ l → t < n := by
      intro l
      induction l with
      | nil => intro _ h; cases h
      | cons x r ih =>
        intro h hm
        unfold dstsL at h
        rw [Bool.and_eq_true] at h
        rcases List.mem_cons.1 hm with rfl | hm
        · rw [ht] at h; simpa [Nat.blt_eq] using h.1
        · exact ih h.2 hm
    exact key _ hd (by have := List.mem_of_getElem? (l := ops.toList) (i := i) (a := o) (by simpa using ho); exact this)
  refine wp_region_any H.mixed (any_of_inv (Inv := fun ls a w => ls.size = ops.size ∧ ∃ L rows, Inv (fun k => ls.getD k false) L rows ∧ SIM w0 m0 mb qb n L rows a w) (fun ls a w i I hi => ?_) (fun ls a w I hr => ?_) _ _ _ _ (by rw [Array.toList_replicate, List.count_replicate]; simp) ?_)
  · obtain ⟨hsz, L, rows, hI, ⟨⟨R, m, q, s1, s2, s3, s4⟩, s5, s6⟩⟩ := I
    obtain ⟨hf, o, ho, hall⟩ := mem_ready.1 hi
    have hin : i < ls.size := by rw [hsz]; exact (Array.getElem?_eq_some_iff.1 ho).1
    have hff : ls.getD i false = false := by simp [hin] at hf ⊢; exact hf
    obtain ⟨hg, hx⟩ := step _ L rows i o ho hff hall hI
    have he : (fun k => (ls.setIfInBounds i true).getD k false) = setF (fun k => ls.getD k false) i := by
      funext k
      unfold setF
      by_cases hk : k = i
      · subst hk
        rw [Nat.beq_refl]
        simp [hin]
      · rw [getD_set_ne false (fun e => hk e.symm)]
        have : Nat.beq k i = false := by
          cases hb : Nat.beq k i with
          | false => rfl
          | true => exact absurd (Nat.eq_of_beq_eq_true hb) hk
        rw [this]
        rfl
    unfold wpOp
    simp only [ho]
    rw [if_pos (by simp [Region.wanted, hg])]
    left
    have s3 : SlotsR m q L a := s3
    refine (xop_ok H HC ⟨s1, s2⟩ s3 hx).wp fun u w' ⟨v, rows', R', m', q', hk, C', hm, hq, hv⟩ => ?_
    exact ⟨by simp [hsz], _, _, (by rw [he]; exact hk), .put C' (s3.up hm hq) ⟨s4.1.trans hm, s4.2.trans hq⟩ s5 s6 hv (hdst i o ho)⟩
  · obtain ⟨hsz, L, rows, hI, S'⟩ := I
    refine done _ L rows a w (fun i => ?_) hI S'
    induction i using Nat.strongRecOn with
    | _ j ih =>
      intro hj
      cases hs : ls.getD j false with
      | true => rfl
      | false =>
        exfalso
        have hjr : j ∈ Region.ready .any ops ls := by
          refine mem_ready.2 ⟨?_, ops[j], by simp [hj], fun e he hb => ?_⟩
          · have : j < ls.size := by rw [hsz]; exact hj
            simp [this] at hs ⊢; exact hs
          · have h1 := List.all_eq_true.1 hback j (List.mem_range.2 hj)
            have h2 : ops[j]? = some ops[j] := by simp [hj]
            simp only [h2] at h1
            have h3 := List.all_eq_true.1 h1 e (by simpa using he)
            rw [hb] at h3
            have h4 : e.on < j := by simpa [Nat.blt_eq] using h3
            exact ih e.on h4 (by omega)
        rw [hr] at hjr; cases hjr
  · refine ⟨by simp, L, rows, ?_, ?_⟩
    · have : (fun k => (Array.replicate ops.size false).getD k false) = fun _ => false := by
        funext k
        rw [Array.getD_eq_getD_getElem?, Array.getElem?_replicate]
        split <;> rfl
      rw [this]
      exact h0
    · obtain ⟨⟨R, m, q, s1, s2, s3, s4⟩, s5, s6⟩ := S
      have C' := (Cf.mk s1 s2).step (Bel.drew [] w)
      exact ⟨⟨R, m, q, C'.sit, C'.rok, s3, s4⟩, s5, s6⟩
/-- A function of a region that goes straight and one that comes in whatever order. -/
theorem pure_any (H : EnvOK E) (N : Nat) {f : FuncId} {fi : FnI} {T : Spec} (hf : E.P.funcs[f]? = some fi.fn) {i0 i1 t : Nat} {ops0 ops1 : Array Oper} (hb : fi.fn.body = some (.seq (.region i0 ops0 false) (.seq (.region i1 ops1 true) .ret))) (hr : fi.fn.results = #[.tmp t])
    (hd0 : dstsL fi.fn.ntmps ops0.toList = true) (hd1 : dstsL fi.fn.ntmps ops1.toList = true) (hback : backB ops1 = true)
    (h : ∀ args K, T args K → args.length ≤ fi.fn.ntmps ∧ wpOps E (callN E N) false ops0.toList ops0.toList (slotsV 0 args) [] fun L rows => ∃ Inv : (Nat → Bool) → VSlots → Rows → Prop, Inv (fun _ => false) L rows ∧ AnyStep E (callN E N) ops1 Inv ∧ ∀ sel L rows, (∀ i, i < ops1.size → sel i = true) → Inv sel L rows → ∃ r, look L t = some r ∧ fzT r rows fun r _ => K r) : Pure E.P f T := by
  intro w m args us K hm hg hv hT
  have C : Cf ⟨w, []⟩ m [] (fun _ => none) m noLoc w := ⟨.start hm hg, ⟨(fun r x h => by cases h), (fun r x h => by simp at h), (fun r r' x x' b n c k n' c' k' h => by simp at h)⟩⟩
  obtain ⟨hn, h⟩ := h args K hT
  have hn : us.length ≤ fi.fn.ntmps := by rw [← hv.1]; exact hn
  refine calls_of_wp hf hb ?_
  have hS : SIM ⟨w, []⟩ m m noLoc fi.fn.ntmps (slotsV 0 args) [] { tmps := us.toArray ++ Array.replicate (fi.fn.ntmps - us.toArray.size) undef, defers := [] } w := by
    refine .mk' C (fun t v e => ?_) ⟨Mem.Le.refl m, Loc.Le.refl _⟩ (by simp; omega) rfl
    obtain ⟨-, h2⟩ := slotsV_look 0 args t v e
    have h3 : args[t]? = some v := by simpa using h2
    have hlt := (List.getElem?_eq_some_iff.1 h3).1
    have h4 : us[t]? = some (us[t]'(by rw [← hv.1]; exact hlt)) := by simp
    have h5 := hv.2 t v _ h3 h4
    have : (us.toArray ++ Array.replicate (fi.fn.ntmps - us.toArray.size) undef).getD t undef = us[t]'(by rw [← hv.1]; exact hlt) := by
      rw [Array.getD_eq_getD_getElem?, Array.getElem?_append_left (by simp; rw [← hv.1]; exact hlt)]
      rw [show us.toArray[t]? = us[t]? by simp, h4, Option.getD_some]
    rw [this]; exact h5
  refine wp_seq (wp_region_list (wpOps_ok H (callN_ok H N) (fun L' rows' a' w' hk S' => ?_) _ _ _ _ _ hd0 h hS))
  obtain ⟨Inv, k1, k2, k3⟩ := hk
  refine wp_seq (any_user H (callN_ok H N) hd1 hback k1 k2 (fun sel L rows a w hall hI S => ?_) S')
  obtain ⟨r, g1, g2⟩ := k3 sel L rows hall hI
  refine wp_ret ?_
  obtain ⟨⟨R, m', q', s1, s2, s3, s4, s5⟩, s6, s7⟩ := S
  obtain ⟨r', rows'', R'', m'', h1, C'', hm'', hr'⟩ := fzT_ok ⟨s1, s2⟩ (s3 t r g1) g2
  refine ⟨s7, a.tmps.getD t undef, ?_, _, r', rfl, C''.sit.bel, h1, hr'.up C''.sit.le (Loc.Le.refl _)⟩
  rw [results_eq, hr]
  have e : ((#[ResultVar.tmp t] : Array ResultVar).mapM (rv a.tmps)).run E.P w = .ok [a.tmps.getD t undef].toArray w := by
    refine mapM_arr ?_
    simp only [List.mapM_cons, List.mapM_nil, rv, Sem.run_bind, Sem.run_pure, Result.andThen_ok]
  simp only [Sem.run_bind, e, Result.andThen_ok, Sem.run_pure]
  rfl
end
end Gv
end PartAny
section PartDoor
/-! What a row that lists variables, and the world's shape, give a law. -/
namespace Gv
open Go Go.Proofs Go.ChangeShapes
/-- What lies in the world at the call stays. -/
abbrev worldGlob (W : World) : Glob := ⟨all W⟩
theorem worldGlob_le (W : World) : (worldGlob W).mem.Le (all W) := fun b o h => h
theorem all_cell {W w : World} (h : Gw.Sub (all W) w) {a : Addr} {v : Value} (e : W.cell? a = some v) : w.cell? a = some v := by
  unfold World.cell? at e ⊢
  split at e
  · rename_i c x y hb
    rw [h _ _ hb]
    exact e
  · cases e
theorem all_int {P : Program} {W : World} {g : Nat} {t : TypeId} {zero : Array Value} {k : IntKind} (h : W.ShapedOpen P) (hg : g < P.globals.size) (h0 : ((begin P (fun _ _ => 0) default).world.heap[g]?).bind Obj.row? = some (zero, t)) (hz : zero.size = 1)
    (hb : P.buildable t = true) (hc : P.cellTypes P.depth t = some [t]) (hu : P.underlying t = some (.int k)) : ∀ w, Gw.Sub (all W) w → ∃ n, w.cell? ⟨g, 0, none⟩ = some (.int k n) := fun w hw => by
  obtain ⟨n, hn⟩ := cell_of_shapedOpen_int h hg h0 hz hb hc hu
  exact ⟨n, all_cell hw hn⟩
/-- The wrap: what the row lists, and the world's shape. -/
theorem returns_both {H : Type} {enc : TypeId × Value → H} {a : Assume} {C : Checked} {os : Os} {f : FuncId} {fn : Func} {s : ChangeSpec} {conds : List PathCond} {apart fresh handsOn again : Bool} {X : World → Array Value → Prop}
    (hX : ∀ (w w' : World) (args : Array Value), w.heap = w'.heap → X w args → X w' args)
    (own : ownKnob C.prog.godebug = none) (started : os.Started) (noInit : C.prog.inits.idxOf? f = none) (hfn : C.prog.funcs[f]? = some fn)
    (witness : ∃ (w : World) (tape : Tape) (i : Input), w.os = os ∧ (w.forCall tape i).Shaped C.prog ∧ i.vars = [] ∧ Input.okWide C.prog (w.forCall tape i) .any w.heap.size f i ∧
      ((s.pre enc C.prog fn conds apart (w.forCall tape i).memory i.args ∧ X (w.forCall tape i).memory i.args) ∧ sizedMet enc C.prog fn (OpenSpec.ofChange s) apart (w.forCall tape i).memory i.args) ∧ a.holds C.prog (lone (Frame.enter C.prog f i.args .normal) [] (w.forCall tape i)))
    (contract : ∀ (W : World) (base : Nat) (args : Array Value) (ds gs : List (DataW H)) (before : List MemPlace),
      (∀ (j : Nat) t v, fn.params[j]? = some t → args[j]? = some v → Value.okWide C.prog W .any base t v) →
      DataW.Whole enc C.prog fn.params.toList s.vars apart W args.toList ds gs before →
      (DataW.weightsEach C.prog (fn.params.toList ++ s.plain.varTypes C.prog) (ds ++ gs)).all (· ≤ reachBytes) = true → X W args → W.ShapedOpen C.prog →
      Calls C.prog f args W fun e W' => ∃ v, e = .returned v ∧ s.post enc C.prog fn apart fresh handsOn again W args v W') :
    ReturnsInHanded a C os f .any (fun w args => (s.pre enc C.prog fn conds apart w args ∧ X w args) ∧ sizedMet enc C.prog fn (OpenSpec.ofChange s) apart w args) (s.post enc C.prog fn apart fresh handsOn again) := by
  refine returnsInHanded_of_calls own started noInit witness ?_
  intro w tape i _ hsh _ hok hpre _
  obtain ⟨_, _, _, fn', hfn', _, _, _, _, hval⟩ := hok
  have e : fn' = fn := Option.some.inj (hfn'.symm.trans hfn)
  subst e
  obtain ⟨⟨⟨ds, gs, before, hw, hc⟩, hx⟩, hz⟩ := hpre
  have hw' := DataW.Whole.of_heap (w' := w.forCall tape i) (by rfl) hw
  refine (contract (w.forCall tape i) w.heap.size i.args ds gs before hval hw' (hz.weights hw) (hX _ _ _ (by rfl) hx) hsh).mono fun e W' ⟨v, he, hp⟩ => ?_
  subst he
  exact ChangeSpec.post_blind hp
end Gv
end PartDoor
