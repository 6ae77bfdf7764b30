/- Plain lists and pipes: what the document says, in plain words. -/
set_option linter.unusedVariables false
namespace Gw

/-! ### Plain lists -/
theorem take_snoc_eq {α : Type} {xs ys : List α} {i : Nat} (h : xs.take i = ys.take i) (h1 : i < xs.length) (h2 : i < ys.length) (e : xs[i] = ys[i]) : xs.take (i + 1) = ys.take (i + 1) := by
  rw [List.take_succ_eq_append_getElem h1, List.take_succ_eq_append_getElem h2, h, e]
theorem eq_of_take {α : Type} {xs ys : List α} {i : Nat} (h : xs.take i = ys.take i) (h1 : xs.length ≤ i) (h2 : ys.length ≤ i) : xs = ys := by
  rwa [List.take_of_length_le h1, List.take_of_length_le h2] at h

theorem flatten_snoc {α : Type} {l : List (List α)} {i : Nat} (h : i < l.length) : (l.take i).flatten ++ l[i] = (l.take (i + 1)).flatten := by
  rw [List.take_succ_eq_append_getElem h, List.flatten_append, List.flatten_cons, List.flatten_nil, List.append_nil]
theorem flatten_take_succ {α : Type} {l : List (List α)} {i : Nat} (h : i < l.length) : (l.take (i + 1)).flatten.length = (l.take i).flatten.length + l[i].length := by
  rw [← flatten_snoc h]; simp
theorem flatten_take_le {α : Type} (l : List (List α)) (i : Nat) : (l.take i).flatten.length ≤ l.flatten.length := by
  have := congrArg (fun a => a.flatten.length) (List.take_append_drop i l)
  simp only [List.flatten_append, List.length_append] at this
  omega

theorem snoc_take {α : Type} {acc a bs : List α} {i : Nat} (h : acc = a ++ bs.take i) (hi : i < bs.length) : acc ++ [bs[i]] = a ++ bs.take (i + 1) := by
  rw [h, List.append_assoc, List.take_succ_eq_append_getElem hi]

/-! ### Lines -/
/-- Lines, each with an end. -/
def put : List (List UInt8) → List UInt8
  | [] => []
  | s :: r => s ++ 10 :: put r
theorem put_append (a b : List (List UInt8)) : put (a ++ b) = put a ++ put b := by
  induction a with
  | nil => rfl
  | cons s r ih => simp [put, ih]
theorem put_snoc {l : List (List UInt8)} {i : Nat} (h : i < l.length) : put (l.take i) ++ l[i] ++ [10] = put (l.take (i + 1)) := by
  rw [List.take_succ_eq_append_getElem h, put_append]; simp [put]
theorem put_take_succ {l : List (List UInt8)} {i : Nat} (h : i < l.length) : (put (l.take (i + 1))).length = (put (l.take i)).length + l[i].length + 1 := by
  rw [← put_snoc h]; simp; omega
theorem put_take_le (l : List (List UInt8)) (i : Nat) : (put (l.take i)).length ≤ (put l).length := by
  have := congrArg (fun a => (put a).length) (List.take_append_drop i l)
  simp only [put_append, List.length_append] at this
  omega

/-! ### Pipes -/
structure PipeS where
  b : List UInt8
  room : Int
  closed : Bool
  shut : Bool
  deriving DecidableEq
def pipeCheck (p : PipeS) : Int :=
  if p.room < 0 ∨ 1000 < p.room then 3 else if (0 < p.room ∧ p.room < p.b.length) ∨ 40000 < p.b.length then 2 else if p.shut = true ∧ 0 < p.b.length then 4 else 0
def zPipe : PipeS := ⟨[], 0, false, false⟩
def pipeNew (room : Int) : PipeS × Int := if room < 0 ∨ 1000 < room then (zPipe, 3) else (⟨[], room, false, false⟩, 0)
/-- How many bytes go into a right pipe. -/
def pipeTakes (p : PipeS) (n : Nat) : Nat :=
  if p.shut then n else min (if 0 < p.room then min n (p.room.toNat - p.b.length) else n) (40000 - p.b.length)
def pipePut (p : PipeS) (b : List UInt8) : PipeS := if p.shut then p else { p with b := p.b ++ b.take (pipeTakes p b.length) }
def pipeWrite (p : PipeS) (b : List UInt8) : PipeS × Int × Int :=
  if pipeCheck p ≠ 0 then (zPipe, 0, pipeCheck p) else if p.closed then (zPipe, 0, 7) else (pipePut p b, pipeTakes p b.length, 0)
def pipeRead (p : PipeS) (most : Int) : PipeS × List UInt8 × Int :=
  if pipeCheck p ≠ 0 then (zPipe, [], pipeCheck p) else if most < 0 ∨ 4000 < most then (zPipe, [], 3)
  else ({ p with b := p.b.drop (min most.toNat p.b.length) }, p.b.take (min most.toNat p.b.length), 0)
def pipeClose (p : PipeS) : PipeS × Int :=
  if pipeCheck p ≠ 0 then (zPipe, pipeCheck p) else if p.closed then (zPipe, 7) else ({ p with closed := true }, 0)
def pipeShut (p : PipeS) : PipeS × Int :=
  if pipeCheck p ≠ 0 then (zPipe, pipeCheck p) else ({ p with b := [], shut := true }, 0)
end Gw
