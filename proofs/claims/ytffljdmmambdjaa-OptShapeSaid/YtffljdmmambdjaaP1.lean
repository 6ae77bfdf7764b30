/- What functions of the program come to (P1): in every world; the conditions stand in each theorem. -/
set_option linter.unusedVariables false
set_option linter.unusedSimpArgs false
/-! Lines, in plain words. -/
namespace Gp
abbrev Bs := List UInt8
/-- Lines, each with an end. -/
def put : List Bs → Bs
  | [] => []
  | s :: r => s ++ 10 :: put r
def lineGo : Bs → Bs → List Bs
  | acc, [] => if acc = [] then [] else [acc]
  | acc, c :: r => if c = 10 then acc :: lineGo [] r else lineGo (acc ++ [c]) r
/-- Lines of bytes. -/
def linesOf (b : Bs) : List Bs := lineGo [] b
def whole (b : Bs) : Bs := put (linesOf b)
def NoNl (l : List Bs) : Prop := ∀ s ∈ l, (10 : UInt8) ∉ s
theorem put_append (a b : List Bs) : put (a ++ b) = put a ++ put b := by
  induction a with
  | nil => rfl
  | cons s r ih => simp [put, ih]
theorem put_snoc (l : List Bs) (s : Bs) : put (l ++ [s]) = put l ++ (s ++ [10]) := by
  rw [put_append]; rfl
theorem put_take_succ {l : List Bs} {i : Nat} (h : i < l.length) : put (l.take (i + 1)) = put (l.take i) ++ (l[i] ++ [10]) := by
  rw [List.take_succ_eq_append_getElem h, put_snoc]
theorem put_take_le (l : List Bs) (i : Nat) : (put (l.take i)).length ≤ (put l).length := by
  have := congrArg (fun a => (put a).length) (List.take_append_drop i l)
  simp only [put_append, List.length_append] at this
  omega
/-- The first line feed. -/
theorem nl_cases (b : Bs) : (10 : UInt8) ∉ b ∨ ∃ a r, b = a ++ 10 :: r ∧ (10 : UInt8) ∉ a := by
  induction b with
  | nil => exact .inl (by simp)
  | cons c b ih =>
    by_cases h : c = 10
    · subst h
      exact .inr ⟨[], b, rfl, by simp⟩
    · rcases ih with ih | ⟨a, r, rfl, ha⟩
      · exact .inl (by simp [ih, Ne.symm h])
      · exact .inr ⟨c :: a, r, rfl, by simp [ha, Ne.symm h]⟩
theorem lineGo_nl {a : Bs} (h : (10 : UInt8) ∉ a) (r : Bs) : ∀ acc, lineGo acc (a ++ 10 :: r) = (acc ++ a) :: linesOf r := by
  induction a with
  | nil => intro acc; simp [lineGo, linesOf]
  | cons c a ih =>
    intro acc
    simp only [List.mem_cons, not_or] at h
    show lineGo acc (c :: (a ++ 10 :: r)) = _
    unfold lineGo
    rw [if_neg (fun e => h.1 e.symm), ih h.2]
    simp
theorem lineGo_no {a : Bs} (h : (10 : UInt8) ∉ a) : ∀ acc, lineGo acc a = if acc ++ a = [] then [] else [acc ++ a] := by
  induction a with
  | nil => intro acc; simp [lineGo]
  | cons c a ih =>
    intro acc
    simp only [List.mem_cons, not_or] at h
    unfold lineGo
    rw [if_neg (fun e => h.1 e.symm), ih h.2]
    simp
theorem linesOf_nl {a : Bs} (h : (10 : UInt8) ∉ a) (r : Bs) : linesOf (a ++ 10 :: r) = a :: linesOf r := by
  unfold linesOf
  rw [lineGo_nl h]; rfl
theorem linesOf_no {a : Bs} (h : (10 : UInt8) ∉ a) (h0 : a ≠ []) : linesOf a = [a] := by
  unfold linesOf
  rw [lineGo_no h]; simp [h0]
theorem linesOf_nil : linesOf [] = [] := rfl
theorem linesOf_append {l : List Bs} (h : NoNl l) (b : Bs) : linesOf (put l ++ b) = l ++ linesOf b := by
  induction l with
  | nil => rfl
  | cons s r ih =>
    have := ih (fun x hx => h x (by simp [hx]))
    show linesOf (s ++ 10 :: put r ++ b) = _
    rw [List.append_assoc, List.cons_append, linesOf_nl (h s (by simp)), this]
    rfl
theorem linesOf_put {l : List Bs} (h : NoNl l) : linesOf (put l) = l := by
  have := linesOf_append h []
  simpa [linesOf_nil] using this
/-- By the first line feed. -/
theorem line_ind {P : Bs → Prop} (h0 : P []) (h1 : ∀ a, (10 : UInt8) ∉ a → a ≠ [] → P a) (h2 : ∀ a r, (10 : UInt8) ∉ a → P r → P (a ++ 10 :: r)) : ∀ b, P b := by
  intro b
  generalize hn : b.length = n
  induction n using Nat.strongRecOn generalizing b with
  | ind n ih =>
    rcases nl_cases b with h | ⟨a, r, rfl, ha⟩
    · by_cases hb : b = []
      · subst hb; exact h0
      · exact h1 b h hb
    · refine h2 a r ha (ih r.length ?_ r rfl)
      subst hn
      simp
      omega
theorem linesOf_no10 (b : Bs) : NoNl (linesOf b) := by
  induction b using line_ind with
  | h0 => intro s hs; cases hs
  | h1 a h h0 => rw [linesOf_no h h0]; intro s hs; simp at hs; subst hs; exact h
  | h2 a r h ih =>
    rw [linesOf_nl h]
    intro s hs
    rcases List.mem_cons.1 hs with rfl | hs
    · exact h
    · exact ih s hs
/-- Is the last line ended? -/
def ended (b : Bs) : Prop := b = [] ∨ b.getLast? = some 10
theorem put_ended (l : List Bs) : ended (put l) := by
  induction l with
  | nil => exact .inl rfl
  | cons s r ih =>
    right
    show (s ++ 10 :: put r).getLast? = _
    rcases ih with h | h
    · rw [h]; simp
    · rw [List.getLast?_append, List.getLast?_cons, h]; simp
theorem whole_eq (b : Bs) : whole b = b ∧ ended b ∨ whole b = b ++ [10] ∧ ¬ ended b := by
  induction b using line_ind with
  | h0 => exact .inl ⟨rfl, .inl rfl⟩
  | h1 a h h0 =>
    right
    unfold whole
    rw [linesOf_no h h0]
    refine ⟨rfl, ?_⟩
    rintro (h1 | h1)
    · exact h0 h1
    · exact h (List.mem_of_getLast? h1)
  | h2 a r h ih =>
    unfold whole at ih ⊢
    rw [linesOf_nl h]
    rcases ih with ⟨e1, e2⟩ | ⟨e1, e2⟩
    · left
      refine ⟨by rw [put, e1], .inr ?_⟩
      rcases e2 with e2 | e2
      · rw [e2]; simp
      · rw [List.getLast?_append, List.getLast?_cons, e2]; simp
    · right
      refine ⟨by rw [put, e1]; simp, ?_⟩
      rintro (h1 | h1)
      · simp at h1
      · apply e2
        by_cases hr : r = []
        · exact .inl hr
        · right
          rw [List.getLast?_append, List.getLast?_cons] at h1
          cases hl : r.getLast? with
          | none => exact absurd (List.getLast?_eq_none_iff.1 hl) hr
          | some x => rw [hl] at h1; simpa using h1
theorem whole_len (b : Bs) : (whole b).length ≤ b.length + 1 := by
  rcases whole_eq b with h | h <;> rw [h.1] <;> simp
theorem put_len {l : List Bs} {n : Nat} (h : (put l).length ≤ n) : l.length ≤ n := by
  induction l generalizing n with
  | nil => simp
  | cons s r ih =>
    simp only [put, List.length_append, List.length_cons] at h ⊢
    have := ih (n := n - 1) (by omega)
    omega
theorem linesOf_len (b : Bs) : (linesOf b).length ≤ b.length := by
  induction b using line_ind with
  | h0 => simp [linesOf_nil]
  | h1 a h h0 =>
    rw [linesOf_no h h0]
    have : a.length ≠ 0 := fun e => h0 (List.length_eq_zero_iff.1 e)
    simp; omega
  | h2 a r h ih => rw [linesOf_nl h]; simp; omega
theorem linesOf_el (b : Bs) : ∀ s ∈ linesOf b, s.length ≤ b.length := by
  induction b using line_ind with
  | h0 => intro s hs; cases hs
  | h1 a h h0 => rw [linesOf_no h h0]; intro s hs; simp at hs; subst hs; exact Nat.le_refl _
  | h2 a r h ih =>
    rw [linesOf_nl h]
    intro s hs
    rcases List.mem_cons.1 hs with rfl | hs
    · simp
    · have := ih s hs
      simp; omega
theorem put_len_el {l : List Bs} {s : Bs} (h : s ∈ l) : s.length + 1 ≤ (put l).length := by
  induction l with
  | nil => cases h
  | cons x r ih =>
    simp only [put, List.length_append, List.length_cons]
    rcases List.mem_cons.1 h with rfl | h
    · omega
    · have := ih h
      omega
/-- Cut at the first line feed. -/
def cutNl (b : Bs) : Bs × Bs × Bool := (b.takeWhile (· != 10), (b.dropWhile (· != 10)).tail, b.contains 10)
theorem cutNl_no {b : Bs} (h : (10 : UInt8) ∉ b) : cutNl b = (b, [], false) := by
  have h1 : b.takeWhile (· != 10) = b := by
    have := List.takeWhile_append_of_pos (p := (· != (10 : UInt8))) (l₁ := b) (l₂ := []) (fun x hx => by
      have : x ≠ 10 := fun e => h (e ▸ hx)
      simpa using this)
    simpa using this
  have h2 : b.dropWhile (· != 10) = [] := by
    have := List.takeWhile_append_dropWhile (p := (· != (10 : UInt8))) (l := b)
    rw [h1] at this
    simpa using this
  unfold cutNl
  rw [h1, h2]
  simpa using h
theorem cutNl_nl {a : Bs} (h : (10 : UInt8) ∉ a) (r : Bs) : cutNl (a ++ 10 :: r) = (a, r, true) := by
  have hp : ∀ x ∈ a, (x != 10) = true := fun x hx => by
    have : x ≠ 10 := fun e => h (e ▸ hx)
    simpa using this
  unfold cutNl
  rw [List.takeWhile_append_of_pos hp, List.dropWhile_append_of_pos hp]
  simp
theorem linesOf_cut {b : Bs} (h : b ≠ []) : linesOf b = (cutNl b).1 :: linesOf (cutNl b).2.1 := by
  rcases nl_cases b with h1 | ⟨a, r, rfl, ha⟩
  · rw [cutNl_no h1, linesOf_no h1 h]; rfl
  · rw [cutNl_nl ha, linesOf_nl ha]
theorem cut_len {b : Bs} (h : b ≠ []) : (cutNl b).2.1.length < b.length ∧ (cutNl b).1.length ≤ b.length := by
  rcases nl_cases b with h1 | ⟨a, r, rfl, ha⟩
  · rw [cutNl_no h1]
    exact ⟨by simpa using List.length_pos_iff.2 h, Nat.le_refl _⟩
  · rw [cutNl_nl ha]
    simp; omega
/-- Parts of whole lines. -/
def part (l : List Bs) (n k : Nat) : List Bs := (l.take ((k + 1) * l.length / n)).drop (k * l.length / n)
def splitLines (l : List Bs) (n : Nat) : List Bs := (List.range n).map fun k => put (part l n k)
theorem part_bnd (m n k : Nat) (hn : 0 < n) : k * m / n + m / n ≤ (k + 1) * m / n ∧ (k + 1) * m / n ≤ k * m / n + m / n + 1 := by
  have e1 := Nat.div_add_mod (k * m) n
  have e2 := Nat.mod_lt (k * m) hn
  have e3 := Nat.div_add_mod m n
  have e4 := Nat.mod_lt m hn
  have e5 := Nat.div_add_mod ((k + 1) * m) n
  have e6 := Nat.mod_lt ((k + 1) * m) hn
  have e7 : (k + 1) * m = k * m + m := by rw [Nat.succ_mul]
  rw [e7] at e5 e6 ⊢
  generalize k * m = a at *
  generalize ha : a / n = qa at *
  generalize hm : m / n = qm at *
  generalize hs : (a + m) / n = qs at *
  generalize a % n = ra at *
  generalize m % n = rm at *
  generalize (a + m) % n = rs at *
  constructor
  · apply Nat.le_of_lt_succ
    apply Nat.lt_of_mul_lt_mul_left (a := n)
    rw [Nat.mul_add, Nat.mul_succ]
    omega
  · apply Nat.le_of_lt_succ
    apply Nat.lt_of_mul_lt_mul_left (a := n)
    have : n * (qa + qm + 1).succ = n * qa + n * qm + n + n := by
      rw [Nat.mul_succ, Nat.mul_add, Nat.mul_add]; omega
    rw [this]
    omega
theorem part_len (l : List Bs) (n k : Nat) (hn : 0 < n) (hk : k < n) : l.length / n ≤ (part l n k).length ∧ (part l n k).length ≤ l.length / n + 1 ∧ (part l n k).length ≤ l.length := by
  have h1 := part_bnd l.length n k hn
  have h2 : (k + 1) * l.length / n ≤ l.length := by
    apply Nat.div_le_of_le_mul
    exact Nat.mul_le_mul_right _ hk
  unfold part
  simp only [List.length_drop, List.length_take]
  generalize k * l.length / n = a at *
  generalize (k + 1) * l.length / n = b at *
  generalize l.length / n = c at *
  omega
theorem part_cat (l : List Bs) (n k : Nat) (hn : 0 < n) : l.take (k * l.length / n) ++ part l n k = l.take ((k + 1) * l.length / n) := by
  have h1 := part_bnd l.length n k hn
  unfold part
  have : l.take (k * l.length / n) = (l.take ((k + 1) * l.length / n)).take (k * l.length / n) := by
    rw [List.take_take]; congr 1
    generalize k * l.length / n = a at *
    generalize (k + 1) * l.length / n = b at *
    generalize l.length / n = c at *
    omega
  rw [this, List.take_append_drop]
theorem part_no {l : List Bs} (h : NoNl l) (n k : Nat) : NoNl (part l n k) := fun s hs => h s (List.mem_of_mem_take (List.mem_of_mem_drop hs))
end Gp
