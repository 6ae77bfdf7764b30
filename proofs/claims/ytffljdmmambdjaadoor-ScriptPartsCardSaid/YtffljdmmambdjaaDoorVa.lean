/- A calculus of what functions come to, part a: what is said holds in every world; conditions stand in each theorem. -/
import Derived.Deep.Quiet
import Derived.KernelRfl
import Derived.WalkKit
set_option linter.unusedVariables false
set_option linter.unusedSimpArgs false
set_option linter.unusedSectionVars false
section PartBase1
namespace Gw
open Go Go.RowKit

abbrev Slots := List (Nat × Value)
def lk : Slots → Nat → Option Value
  | [], _ => none
  | (k, v) :: r, t => match Nat.beq k t with | true => some v | false => lk r t
def ev (L : Slots) : Operand → Option Value
  | .tmp t => lk L t
  | .const v => some v
  | .global g => some (.pointer (some ⟨g, 0, none⟩))
  | .func f => some (.func (.func f) #[] #[])
/-- The known slots of an activation. -/
structure Has (n : Nat) (L : Slots) (a : Act) : Prop where
  size : a.tmps.size = n
  defers : a.defers = []
  get : ∀ t v, lk L t = some v → a.tmps.getD t undef = v

section
variable {n : Nat} {L : Slots} {a : Act} {x : Operand} {v : Value} {d : Nat}
theorem Has.ev (H : Has n L a) (h : ev L x = some v) : a.eval x = v := by
  cases x with
  | tmp t => exact H.get t v h
  | const u => simpa [Gw.ev, Act.eval] using h
  | global g => simpa [Gw.ev, Act.eval] using h
  | func f => simpa [Gw.ev, Act.eval] using h
theorem Has.put (H : Has n L a) (hd : Nat.blt d n = true) (v : Value) : Has n ((d, v) :: L) (a.put (some d) v) := by
  have hd' : d < n := by simpa [Nat.blt_eq] using hd
  refine ⟨by simp [Act.put, H.size], by simp [Act.put, H.defers], fun t u h => ?_⟩
  by_cases e : d = t
  · subst e
    have : v = u := by
      have : lk ((d, v) :: L) d = some v := by simp [lk]
      rw [this] at h; exact Option.some.inj h
    subst this
    have hlt : d < a.tmps.size := by rw [H.size]; exact hd'
    simp [Act.put, Array.getD_eq_getD_getElem?, hlt]
  · have hb : Nat.beq d t = false := by
      cases hb : Nat.beq d t
      · rfl
      · exact absurd (Nat.eq_of_beq_eq_true hb) e
    have h2 : lk L t = some u := by simpa [lk, hb] using h
    have := H.get t u h2
    rw [← this]
    simp [Act.put, Array.getD_eq_getD_getElem?, e]
theorem Has.put_none (H : Has n L a) (v : Value) : Has n L (a.put none v) := H
/-- Fewer slots. -/
def sub (L' L : Slots) : Bool := L'.all fun p => match lk L p.1 with | some _ => true | none => false
theorem Has.keep (H : Has n L a) (L' : Slots) (h : ∀ t v, lk L' t = some v → lk L t = some v) : Has n L' a :=
  ⟨H.size, H.defers, fun t v e => H.get t v (h t v e)⟩
def pickSlots (L : Slots) : List Nat → Slots
  | [] => []
  | t :: r => match lk L t with | some v => (t, v) :: pickSlots L r | none => pickSlots L r
theorem lk_pick (L : Slots) : ∀ (ts : List Nat) (t : Nat) (v : Value), lk (pickSlots L ts) t = some v → lk L t = some v
  | [], t, v, h => by simp [pickSlots, lk] at h
  | s :: r, t, v, h => by
    unfold pickSlots at h
    cases hs : lk L s with
    | none => rw [hs] at h; exact lk_pick L r t v h
    | some u =>
      rw [hs] at h
      by_cases e : Nat.beq s t = true
      · have : s = t := Nat.eq_of_beq_eq_true e
        subst this
        simp [lk] at h
        rw [hs, h]
      · have e' : Nat.beq s t = false := by
          cases hb : Nat.beq s t
          · rfl
          · exact absurd hb e
        simp only [lk, e'] at h
        exact lk_pick L r t v h
/-- Keep the slots `ts` alone. -/
theorem Has.only (H : Has n L a) (ts : List Nat) {L' : Slots} (h : pickSlots L ts = L') : Has n L' a :=
  H.keep L' fun t v e => lk_pick L ts t v (by rw [h]; exact e)
end

/-! ### Entering and leaving a function -/
def slotsOf : Nat → List Value → Slots
  | _, [] => []
  | i, v :: r => (i, v) :: slotsOf (i + 1) r
theorem lk_slotsOf : ∀ (i : Nat) (vs : List Value) (t : Nat) (v : Value), lk (slotsOf i vs) t = some v → i ≤ t ∧ vs[t - i]? = some v
  | i, [], t, v, h => by simp [slotsOf, lk] at h
  | i, u :: r, t, v, h => by
    unfold slotsOf lk at h
    cases e : Nat.beq i t with
    | true =>
      have : i = t := Nat.eq_of_beq_eq_true e
      subst this
      simp at h
      simp [h]
    | false =>
      simp only [e] at h
      have ⟨h1, h2⟩ := lk_slotsOf (i + 1) r t v h
      refine ⟨by omega, ?_⟩
      have : t - i = (t - (i + 1)) + 1 := by omega
      rw [this]; simpa using h2
theorem enter {P : Program} {f : FuncId} {fn : Func} {c : Code} {args : List Value} {w : World} {R : Ending → World → Prop} {n : Nat}
    (hf : P.funcs[f]? = some fn) (hb : fn.body = some c) (hn : fn.ntmps = n) (hl : Nat.ble args.length n = true)
    (h : ∀ a, Has n (slotsOf 0 args) a → c.wp P (bodyPost P fn R) a w) : Calls P f args.toArray w R := by
  refine calls_of_wp hf hb (h _ ⟨?_, rfl, fun t v e => ?_⟩)
  · have : args.length ≤ n := by simpa [Nat.ble_eq] using hl
    simp [hn]; omega
  · have ⟨_, h2⟩ := lk_slotsOf 0 args t v e
    have h3 : args[t]? = some v := by simpa using h2
    have hlt : t < args.length := by
      rcases Nat.lt_or_ge t args.length with h | h
      · exact h
      · simp [List.getElem?_eq_none h] at h3
    rw [List.getElem?_eq_getElem hlt] at h3
    simp [Array.getD_eq_getD_getElem?, Array.getElem?_append, hlt]
    exact Option.some.inj h3

def resSlots (L : Slots) : List ResultVar → Option (List Value)
  | [] => some []
  | .tmp t :: r => match lk L t, resSlots L r with | some v, some vs => some (v :: vs) | _, _ => none
  | .cell .. :: _ => none
def packV : List Value → Value
  | [v] => v
  | vs => .tuple vs.toArray

theorem run_mapM_list {α β : Type} (P : Program) (w : World) (f : α → Sem β) : ∀ (l : List α) (g : α → β), (∀ x ∈ l, (f x).run P w = .ok (g x) w) → (l.mapM f).run P w = .ok (l.map g) w
  | [], g, _ => by simp
  | x :: r, g, h => by
    have h1 := h x (by simp)
    have h2 := run_mapM_list P w f r g (fun y hy => h y (by simp [hy]))
    simp [List.mapM_cons, h1, h2]

/-- What the results are: `.tmp` slots known, `.cell`s loaded. -/
inductive Res (P : Program) (L : Slots) (w : World) : List ResultVar → List Value → Prop
  | nil : Res P L w [] []
  | tmp {t v r vs} (h : lk L t = some v) (k : Res P L w r vs) : Res P L w (.tmp t :: r) (v :: vs)
  | cell {t T p v r vs} (h : lk L t = some (.pointer (some p))) (hl : (loadVar T p).run P w = .ok v w) (k : Res P L w r vs) : Res P L w (.cell t T :: r) (v :: vs)
def rv (tm : Array Value) : ResultVar → Sem Value
  | .tmp t => pure (tm.getD t undef)
  | .cell c t => do loadVar t (← asAddr (tm.getD c undef))
theorem results_eq (fn : Func) (tm : Array Value) : results fn tm = (do let vs ← fn.results.mapM (rv tm); pure (if h : vs.size = 1 then vs[0] else .tuple vs)) := by
  unfold results
  have : (fun | ResultVar.tmp t => (pure (tm.getD t undef) : Sem Value) | .cell c t => do loadVar t (← asAddr (tm.getD c undef))) = rv tm := by
    funext x; cases x <;> rfl
  rw [← this]; rfl
theorem Res.run {P : Program} {n : Nat} {L : Slots} {w : World} {a : Act} (H : Has n L a) {rs : List ResultVar} {vs : List Value} (h : Res P L w rs vs) :
    (rs.mapM (rv a.tmps)).run P w = .ok vs w := by
  induction h with
  | nil => rfl
  | tmp h k ih => simp only [List.mapM_cons, rv, H.get _ _ h, Sem.run_bind, Sem.run_pure, Result.andThen_ok, ih]
  | @cell t T p v r vs h hl k ih =>
    have e : (asAddr (.pointer (some p))).run P w = .ok p w := rfl
    simp only [List.mapM_cons, rv, H.get _ _ h, e, hl, Sem.run_bind, Sem.run_pure, Result.andThen_ok, ih]
theorem ret_ok {P : Program} {fn : Func} {R : Ending → World → Prop} {n : Nat} {L : Slots} {a : Act} {w : World} {rs : List ResultVar} {vs : List Value} (H : Has n L a)
    (hr : fn.results = rs.toArray) (h : Res P L w rs vs) (hR : R (.returned (packV vs)) w) : bodyPost P fn R .ret a w := by
  refine ⟨H.defers, packV vs, ?_, hR⟩
  have := h.run H
  rw [results_eq, hr, List.mapM_toArray]
  simp only [Sem.run_bind, Sem.run_map, this, Result.andThen_ok, Sem.run_pure]
  cases vs with
  | nil => rfl
  | cons v r => cases r with
    | nil => rfl
    | cons u r => simp [packV]
theorem end_ok {P : Program} {fn : Func} {R : Ending → World → Prop} {n : Nat} {L : Slots} {a : Act} {w : World} {rs : List ResultVar} {vs : List Value} (H : Has n L a)
    (hr : fn.results = rs.toArray) (h : Res P L w rs vs) (hR : R (.returned (packV vs)) w) : bodyPost P fn R .normal a w := ret_ok H hr h hR
end Gw
end PartBase1
section PartBase2
namespace Gw
open Go Go.RowKit

/-! ### Worlds -/
/-- What was there stays, but for the blocks `X`. -/
structure Bel (X : List Nat) (w w' : World) : Prop where
  os : w'.os = w.os
  tape : w'.tape = w.tape
  output : w'.output = w.output
  size : w.heap.size ≤ w'.heap.size
  block : ∀ k, k < w.heap.size → k ∉ X → w'.heap[k]? = w.heap[k]?
theorem Bel.refl (X : List Nat) (w : World) : Bel X w w := ⟨rfl, rfl, rfl, Nat.le_refl _, fun _ _ _ => rfl⟩
theorem Bel.trans {X : List Nat} {a b c : World} (h : Bel X a b) (k : Bel X b c) : Bel X a c :=
  ⟨k.os.trans h.os, k.tape.trans h.tape, k.output.trans h.output, Nat.le_trans h.size k.size, fun i hi hx => (k.block i (Nat.lt_of_lt_of_le hi h.size) hx).trans (h.block i hi hx)⟩
theorem Bel.weaken {X Y : List Nat} {a b : World} (h : Bel X a b) (hs : ∀ k, k < a.heap.size → k ∈ X → k ∈ Y) : Bel Y a b :=
  ⟨h.os, h.tape, h.output, h.size, fun i hi hy => h.block i hi fun hx => hy (hs i hi hx)⟩
theorem Bel.below {w w' : World} (h : Bel [] w w') : Below w.heap.size w w' := ⟨h.os, h.tape, h.output, h.size, fun k hk => h.block k hk (by simp)⟩
theorem Bel.of_below {w w' : World} (h : Below w.heap.size w w') : Bel [] w w' := ⟨h.os, h.tape, h.output, h.size, fun k hk _ => h.block k hk⟩
theorem Bel.alloc (X : List Nat) (w : World) (o : Obj) : Bel X w (w.alloc o) :=
  ⟨rfl, rfl, rfl, by simp, fun k hk _ => by show (w.heap.push o)[k]? = _; rw [Array.getElem?_push, if_neg (by omega)]⟩
theorem Bel.drew (X : List Nat) (w : World) : Bel X w w.drew := ⟨rfl, rfl, rfl, Nat.le_refl _, fun _ _ _ => rfl⟩
theorem Bel.setCell {X : List Nat} (w : World) {a : Addr} (v : Value) (h : w.heap.size ≤ a.block ∨ a.block ∈ X) : Bel X w (w.setCell a v) :=
  ⟨rfl, rfl, rfl, by simp, fun k hk hx => by
    simp only [World.setCell, Array.getElem?_modify]
    rw [if_neg]; intro e; rcases h with h | h
    · omega
    · exact hx (e ▸ h)⟩
/-- Two steps, the second of which may write what the first made. -/
theorem Bel.then {X Y : List Nat} {a b c : World} (h : Bel X a b) (k : Bel Y b c) (hy : ∀ i, i ∈ Y → a.heap.size ≤ i ∨ i ∈ X) : Bel X a c :=
  ⟨k.os.trans h.os, k.tape.trans h.tape, k.output.trans h.output, Nat.le_trans h.size k.size, fun i hi hx =>
    (k.block i (Nat.lt_of_lt_of_le hi h.size) fun e => (hy i e).elim (fun h1 => by omega) hx).trans (h.block i hi hx)⟩

/-- A part of the memory that stays as it is. -/
abbrev Mem := Nat → Option Obj
def Mem.Le (m m' : Mem) : Prop := ∀ b o, m b = some o → m' b = some o
theorem Mem.Le.refl (m : Mem) : m.Le m := fun _ _ h => h
theorem Mem.Le.trans {m m' m'' : Mem} (h : m.Le m') (k : m'.Le m'') : m.Le m'' := fun b o e => k b o (h b o e)
def Sub (m : Mem) (w : World) : Prop := ∀ b o, m b = some o → w.heap[b]? = some o
def grow (m : Mem) (w w' : World) : Mem := fun b => if b < w.heap.size then m b else w'.heap[b]?
theorem Sub.lt {m : Mem} {w : World} (h : Sub m w) {b : Nat} {o : Obj} (e : m b = some o) : b < w.heap.size := by
  have := h b o e
  rcases Nat.lt_or_ge b w.heap.size with h | h
  · exact h
  · simp [Array.getElem?_eq_none h] at this
theorem Sub.le_grow {m : Mem} {w : World} (h : Sub m w) (w' : World) : m.Le (grow m w w') := fun b o e => by
  unfold grow; rw [if_pos (h.lt e)]; exact e
/-- All that is there. -/
def all (w : World) : Mem := fun b => w.heap[b]?
theorem sub_all (w : World) : Sub (all w) w := fun _ _ h => h
def Mem.put (m : Mem) (b : Nat) (o : Obj) : Mem := fun k => if k = b then some o else m k

abbrev Boxes := List (Nat × Obj)
/-- The state of an activation: begun in `w0`; its boxes `R` (blocks that only it knows, each with what it holds), what stays `m`, the world `w`; of what was there in `w0` it may write `X` alone. -/
structure St (X : List Nat) (w0 : World) (m0 : Mem) (R : Boxes) (m : Mem) (w : World) : Prop where
  bel : Bel X w0 w
  boxes : ∀ (j : Nat) p, R[j]? = some p → (w0.heap.size ≤ p.1 ∨ p.1 ∈ X) ∧ w.heap[p.1]? = some p.2 ∧ m p.1 = none
  nodup : ∀ (j k : Nat) p q, R[j]? = some p → R[k]? = some q → p.1 = q.1 → j = k
  mem : Sub m w
  low : ∀ b o, m b = some o → b < w0.heap.size → m0 b = some o

section
variable {X : List Nat} {w0 w : World} {R : Boxes} {m m0 : Mem}
theorem lt_of_heap {w : World} {b : Nat} {o : Obj} (h : w.heap[b]? = some o) : b < w.heap.size := by
  rcases Nat.lt_or_ge b w.heap.size with h' | h'
  · exact h'
  · simp [Array.getElem?_eq_none h'] at h
theorem St.lt (S : St X w0 m0 R m w) {j : Nat} {p : Nat × Obj} (h : R[j]? = some p) : p.1 < w.heap.size := lt_of_heap (S.boxes j p h).2.1
theorem St.start (hm : Sub m w) : St [] w m [] m w := ⟨Bel.refl _ _, fun j p h => by simp at h, fun j k p q h => by simp at h, hm, fun _ _ h _ => h⟩
theorem St.start1 {b : Nat} {o : Obj} (hm : Sub m w) (hb : w.heap[b]? = some o) (hn : m b = none) : St [b] w m [(b, o)] m w :=
  ⟨Bel.refl _ _, fun j p h => by
    cases j with
    | zero => simp at h; subst h; exact ⟨.inr (by simp), hb, hn⟩
    | succ j => simp at h,
   fun j k p q h h' _ => by
    cases j <;> cases k <;> simp_all, hm, fun _ _ h _ => h⟩
/-- A step that writes nothing that was there (a call, a new block that stays, a draw). -/
theorem St.step (S : St X w0 m0 R m w) {w' : World} (h : Bel [] w w') : St X w0 m0 R m w' :=
  ⟨S.bel.then h (fun _ h => by cases h), fun j p hp => ⟨(S.boxes j p hp).1, by rw [h.block _ (S.lt hp) (by simp)]; exact (S.boxes j p hp).2.1, (S.boxes j p hp).2.2⟩, S.nodup,
    fun b o e => by rw [h.block _ (S.mem.lt e) (by simp)]; exact S.mem b o e, S.low⟩
/-- .. and what it made stays. -/
theorem St.grow (S : St X w0 m0 R m w) {w' : World} (h : Bel [] w w') : St X w0 m0 R (grow m w w') w' :=
  ⟨(S.step h).bel, fun j p hp => ⟨((S.step h).boxes j p hp).1, ((S.step h).boxes j p hp).2.1, by unfold Gw.grow; rw [if_pos (S.lt hp)]; exact (S.boxes j p hp).2.2⟩, S.nodup,
    fun b o e => by
      unfold Gw.grow at e
      split at e
      · exact (S.step h).mem b o e
      · exact e,
    fun b o e hb => by
      unfold Gw.grow at e
      rw [if_pos (Nat.lt_of_lt_of_le hb S.bel.size)] at e
      exact S.low b o e hb⟩
theorem heap_alloc_new (w : World) (o : Obj) : (w.alloc o).heap[w.heap.size]? = some o := by
  show (w.heap.push o)[w.heap.size]? = _
  simp
/-- A new box. -/
theorem St.box (S : St X w0 m0 R m w) (o : Obj) : St X w0 m0 ((w.heap.size, o) :: R) m (w.alloc o) := by
  have T := S.step (Bel.alloc [] w o)
  refine ⟨T.bel, fun j p hp => ?_, fun j k p q hp hq e => ?_, T.mem, S.low⟩
  · cases j with
    | zero =>
      simp at hp; subst hp
      refine ⟨.inl S.bel.size, heap_alloc_new w o, ?_⟩
      cases hm : m w.heap.size with
      | none => rfl
      | some o' => have := S.mem.lt hm; omega
    | succ j => exact T.boxes j p (by simpa using hp)
  · cases j with
    | zero =>
      cases k with
      | zero => rfl
      | succ k =>
        simp at hp hq; subst hp
        have := S.lt hq
        simp only at e; omega
    | succ j =>
      cases k with
      | zero =>
        simp at hp hq; subst hq
        have := S.lt hp
        simp only at e; omega
      | succ k => exact congrArg (· + 1) (S.nodup j k p q (by simpa using hp) (by simpa using hq) e)
/-- Some of the boxes, in whatever order. -/
theorem St.reindex (S : St X w0 m0 R m w) {R' : Boxes} (g : Nat → Nat) (hg : ∀ j k, g j = g k → j = k) (h : ∀ (j : Nat) p, R'[j]? = some p → R[g j]? = some p) : St X w0 m0 R' m w :=
  ⟨S.bel, fun j p hp => S.boxes _ p (h j p hp), fun j k p q hp hq e => hg _ _ (S.nodup _ _ p q (h j p hp) (h k q hq) e), S.mem, S.low⟩
theorem St.drop (S : St X w0 m0 R m w) (i : Nat) : St X w0 m0 (R.eraseIdx i) m w :=
  S.reindex (fun j => if j < i then j else j + 1) (fun j k h => by
      have h' : (if j < i then j else j + 1) = (if k < i then k else k + 1) := h
      split at h' <;> split at h' <;> omega) fun j p hp => by
    rw [List.getElem?_eraseIdx] at hp
    show R[if j < i then j else j + 1]? = some p
    by_cases hh : j < i
    · rw [if_pos hh] at hp ⊢; exact hp
    · rw [if_neg hh] at hp ⊢; exact hp
/-- A box becomes one of what stays. -/
theorem St.freeze (S : St X w0 m0 R m w) (i : Nat) {b : Nat} {o : Obj} (h : R[i]? = some (b, o)) (hX : w0.heap.size ≤ b) : St X w0 m0 (R.eraseIdx i) (m.put b o) w ∧ m.Le (m.put b o) := by
  have hb := S.boxes i (b, o) h
  have D := S.drop i
  refine ⟨⟨S.bel, fun j p hp => ⟨(D.boxes j p hp).1, (D.boxes j p hp).2.1, ?_⟩, D.nodup, fun k o' e => ?_, fun k o' e hk => ?_⟩, fun k o' e => ?_⟩
  · unfold Mem.put
    rw [if_neg]
    · exact (D.boxes j p hp).2.2
    · intro e
      rw [List.getElem?_eraseIdx] at hp
      split at hp
      · rename_i hlt; have := S.nodup j i p (b, o) hp h e; omega
      · rename_i hlt; have := S.nodup (j + 1) i p (b, o) hp h e; omega
  · unfold Mem.put at e
    split at e
    · rename_i h'; subst h'; rw [hb.2.1]; exact e
    · exact S.mem k o' e
  · unfold Mem.put at e
    rw [if_neg (by omega)] at e
    exact S.low k o' e hk
  · unfold Mem.put
    split
    · rename_i h'; subst h'; rw [hb.2.2] at e; cases e
    · exact e
/-- What stays is told by the end. -/
theorem St.le (S : St X w0 m0 R m w) : m.Le (Gw.grow m0 w0 w) := fun b o e => by
  unfold Gw.grow
  split
  · rename_i h; exact S.low b o e h
  · exact S.mem b o e
/-- A box's cell. -/
theorem St.cell (S : St X w0 m0 R m w) (i : Nat) {b o : Nat} {cs : Array Value} {T : TypeId} {fz : Nat × Nat} {v : Value} (h : R[i]? = some (b, .cells cs T fz)) (hv : cs[o]? = some v) :
    w.cell? ⟨b, o, none⟩ = some v := by
  have := (S.boxes i _ h).2.1
  simp only [World.cell?, this]
  simpa using hv
theorem setCell_heap {w : World} {b o : Nat} {cs : Array Value} {T : TypeId} {fz : Nat × Nat} (v : Value) (h : w.heap[b]? = some (.cells cs T fz)) (k : Nat) :
    (w.setCell ⟨b, o, none⟩ v).heap[k]? = if k = b then some (.cells (cs.setIfInBounds o v) T fz) else w.heap[k]? := by
  simp only [World.setCell, Array.getElem?_modify]
  by_cases e : b = k
  · subst e; simp [h]
  · rw [if_neg e, if_neg (fun h => e h.symm)]
/-- A step that writes one box alone. -/
theorem St.write (S : St X w0 m0 R m w) (i : Nat) {b : Nat} {o o' : Obj} (h : R[i]? = some (b, o)) {w' : World} (hw : Bel [b] w w') (hn : w'.heap[b]? = some o') :
    St X w0 m0 (R.set i (b, o')) m w' := by
  have hb := S.boxes i _ h
  have hi : i < R.length := by
    rcases Nat.lt_or_ge i R.length with h' | h'
    · exact h'
    · simp [List.getElem?_eq_none h'] at h
  have old : ∀ (j : Nat) p, (R.set i (b, o'))[j]? = some p → ∃ q, R[j]? = some q ∧ q.1 = p.1 ∧ (j ≠ i → p = q) ∧ (j = i → p = (b, o')) := fun j p hp => by
    rw [List.getElem?_set] at hp
    by_cases e : i = j
    · subst e
      simp [hi] at hp
      exact ⟨(b, o), h, by rw [← hp], fun h => absurd rfl h, fun _ => hp.symm⟩
    · rw [if_neg e] at hp
      exact ⟨p, hp, rfl, fun _ => rfl, fun h => absurd h.symm e⟩
  refine ⟨S.bel.then hw (fun k hk => by simp at hk; subst hk; exact hb.1), fun j p hp => ?_, fun j k p q hp hq e => ?_, fun k o2 e => ?_, S.low⟩
  · obtain ⟨q, hq, e1, e2, e3⟩ := old j p hp
    have hq' := S.boxes j q hq
    refine ⟨by rw [← e1]; exact hq'.1, ?_, by rw [← e1]; exact hq'.2.2⟩
    by_cases e : j = i
    · rw [e3 e]; exact hn
    · rw [e2 e]
      rw [hw.block _ (S.lt hq) (by
        intro hx; simp at hx
        exact e (S.nodup j i q (b, o) hq h hx))]
      exact hq'.2.1
  · obtain ⟨p', hp', e1, _⟩ := old j p hp
    obtain ⟨q', hq', e2, _⟩ := old k q hq
    exact S.nodup j k p' q' hp' hq' (by rw [e1, e2, e])
  · have hk := S.mem k o2 e
    rw [hw.block _ (S.mem.lt e) (by
      intro hx; simp at hx; subst hx
      rw [hb.2.2] at e; cases e)]
    exact hk
/-- A store into a box. -/
theorem St.set (S : St X w0 m0 R m w) (i : Nat) {b o : Nat} {cs : Array Value} {T : TypeId} {fz : Nat × Nat} (v : Value) (h : R[i]? = some (b, .cells cs T fz)) :
    St X w0 m0 (R.set i (b, .cells (cs.setIfInBounds o v) T fz)) m (w.setCell ⟨b, o, none⟩ v) :=
  S.write i h (Bel.setCell w v (.inr (by simp))) (by rw [setCell_heap v (S.boxes i _ h).2.1]; simp)
end
end Gw
end PartBase2
section PartBase3
namespace Gw
open Go Go.RowKit

/-! ### One operation of a region -/
def optL : Option Operand → List Operand
  | none => []
  | some x => [x]
def callL (c : Call) : List Operand :=
  match c.callee with
  | .value f => f :: c.args.toList
  | .invoke r _ => r :: c.args.toList
  | .builtin _ => c.args.toList
/-- The operands that an operation reads (of a select: none are told). -/
def opnds : Op → Option (List Operand)
  | .alloc _ | .ready _ | .waits _ => some []
  | .move x | .assign x | .box _ x | .load _ x | .nilCheck x | .unOp _ _ x | .convert _ _ x | .sliceToArrayPointer _ x | .makeInterface _ x
  | .makeChan _ x | .fieldAddr _ x _ | .field _ x _ | .range _ x | .next x _ | .entry x | .typeAssert x _ _ _ | .extract x _ | .panic x | .recv _ x _ => some [x]
  | .pick c a b => some [c, a, b]
  | .build _ ps | .buildSlice _ _ ps => some (ps.toList.map (·.2))
  | .store _ a v | .binOp _ _ a v _ | .makeSlice _ a v | .indexAddr _ a v | .index _ a v | .lookup _ a v _ | .mapEntry _ a v | .send a v => some [a, v]
  | .makeFunc _ first captured => some (first.toList ++ captured.toList)
  | .makeMap _ r => some (optL r)
  | .slice _ x l h m => some (x :: (optL l ++ (optL h ++ optL m)))
  | .mapUpdate _ m k v | .entryStore _ m k v | .insert _ m k v => some [m, k, v]
  | .call c | .go c | .defer c => some (callL c)
  | .select _ _ => none
def evF (L : Slots) (x : Operand) : Value := match ev L x with | some v => v | none => undef
def knows (L : Slots) : List Operand → Bool
  | [] => true
  | x :: r => match ev L x with | some _ => knows L r | none => false
def knowsOp (L : Slots) (o : Op) : Bool := match opnds o with | some l => knows L l | none => false
theorem knows_mem {L : Slots} : ∀ {l : List Operand}, knows L l = true → ∀ x ∈ l, ∃ v, ev L x = some v
  | [], _, x, h => by cases h
  | y :: r, hk, x, h => by
    unfold knows at hk
    cases he : ev L y with
    | none => rw [he] at hk; cases hk
    | some v =>
      rw [he] at hk
      rcases List.mem_cons.1 h with rfl | h
      · exact ⟨v, he⟩
      · exact knows_mem hk x h
theorem Has.evF {n : Nat} {L : Slots} {a : Act} (H : Has n L a) {x : Operand} {v : Value} (h : Gw.ev L x = some v) : a.eval x = Gw.evF L x := by
  rw [H.ev h]; simp [Gw.evF, h]
theorem map_congr_arr {α β : Type} (as : Array α) (f g : α → β) (h : ∀ x ∈ as.toList, f x = g x) : as.map f = as.map g := by
  apply Array.map_congr_left
  intro x hx
  exact h x (by simpa using hx)
theorem optmap_congr (o : Option Operand) (f g : Operand → Value) (h : ∀ x ∈ optL o, f x = g x) : o.map f = o.map g := by
  cases o with
  | none => rfl
  | some x => simp [h x (by simp [optL])]
theorem resolve_congr {ρ ρ' : Operand → Value} (c : Call) (T : TypeId) (h : ∀ x ∈ callL c, ρ x = ρ' x) : resolve ρ c T = resolve ρ' c T := by
  unfold resolve
  unfold callL at h
  cases hc : c.callee with
  | value f =>
    rw [hc] at h
    simp only
    rw [map_congr_arr c.args ρ ρ' (fun x hx => h x (by simp [hx])), h f (by simp)]
  | invoke r mm =>
    rw [hc] at h
    simp only
    rw [map_congr_arr c.args ρ ρ' (fun x hx => h x (by simp [hx])), h r (by simp)]
  | builtin b =>
    rw [hc] at h
    simp only
    rw [map_congr_arr c.args ρ ρ' (fun x hx => h x hx)]
theorem execOp_congr {ρ ρ' : Operand → Value} (o : Oper) {l : List Operand} (hl : opnds o.op = some l) (h : ∀ x ∈ l, ρ x = ρ' x) : execOp ρ o = execOp ρ' o := by
  unfold execOp
  cases ho : o.op <;> rw [ho] at hl <;> simp only [opnds, Option.some.injEq, reduceCtorEq] at hl <;> subst hl <;> simp only
  case build t ps => rw [map_congr_arr ps _ _ (fun x hx => by rw [h x.2 (List.mem_map.2 ⟨x, hx, rfl⟩)])]
  case buildSlice t n ps => rw [map_congr_arr ps _ _ (fun x hx => by rw [h x.2 (List.mem_map.2 ⟨x, hx, rfl⟩)])]
  case makeFunc fn a b => rw [map_congr_arr a ρ ρ' (fun x hx => h x (by simp [hx])), map_congr_arr b ρ ρ' (fun x hx => h x (by simp [hx]))]
  case makeMap t r => rw [optmap_congr r ρ ρ' h]
  case slice t x lo hi mx => rw [h x (by simp), optmap_congr lo ρ ρ' (fun y hy => h y (by simp [hy])), optmap_congr hi ρ ρ' (fun y hy => h y (by simp [hy])), optmap_congr mx ρ ρ' (fun y hy => h y (by simp [hy]))]
  case call c => rw [resolve_congr c _ h]
  case go c => rw [resolve_congr c _ h]
  case defer c => rw [resolve_congr c _ h]
  all_goals simp_all

/-- For every activation of which the slots `L` are known. -/
def WN (F : Act → World → Prop) (n : Nat) (L : Slots) (w : World) : Prop := ∀ a, Has n L a → F a w
abbrev WL (P : Program) (ops : Array Oper) (Q : Exit → Act → World → Prop) (rest : List Oper) (n : Nat) (L : Slots) (w : World) : Prop := WN (wpList P ops Q rest) n L w
abbrev WC (P : Program) (c : Code) (Q : Exit → Act → World → Prop) (n : Nat) (L : Slots) (w : World) : Prop := WN (c.wp P Q) n L w
abbrev WE (Q : Exit → Act → World → Prop) (e : Exit) (n : Nat) (L : Slots) (w : World) : Prop := WN (Q e) n L w
section
variable {P : Program} {ops : Array Oper} {Q : Exit → Act → World → Prop} {rest : List Oper} {n : Nat} {L : Slots} {a : Act} {w w' : World}
theorem exec_has {o : Oper} (H : Has n L a) (hk : knowsOp L o.op = true) : execOp a.eval o = execOp (evF L) o := by
  unfold knowsOp at hk
  cases hl : opnds o.op with
  | none => rw [hl] at hk; cases hk
  | some l =>
    rw [hl] at hk
    exact execOp_congr o hl fun x hx => let ⟨v, hv⟩ := knows_mem hk x hx; H.evF hv
/-- An operation that leaves a value. -/
theorem s_op {o : Oper} {d : Nat} (v : Value) (hg : o.guard = none) (hd : o.dst = some d) (hn : Nat.blt d n = true) (hk : knowsOp L o.op = true)
    (hr : (execOp (evF L) o).run P w = .ok (.value v) w') (k : WL P ops Q rest n ((d, v) :: L) w') : WL P ops Q (o :: rest) n L w := fun a H => by
  refine wpList_plain hg fun K hK => ?_
  unfold Oper.wp
  rw [exec_has H hk, hr, Oper.upon_value, hd]
  exact hK _ _ (k _ (H.put hn v))
/-- .. that leaves none. -/
theorem s_do {o : Oper} (hg : o.guard = none) (hd : o.dst = none) (hk : knowsOp L o.op = true)
    (hr : (execOp (evF L) o).run P w = .ok .skip w') (k : WL P ops Q rest n L w') : WL P ops Q (o :: rest) n L w := fun a H => by
  refine wpList_plain hg fun K hK => ?_
  unfold Oper.wp
  rw [exec_has H hk, hr, Oper.upon_skip, hd]
  exact hK _ _ (k a H)
/-- A call of a Go function. -/
theorem s_enter {o : Oper} {d : Nat} {f : FuncId} {args : Array Value} (hg : o.guard = none) (hd : o.dst = some d) (hn : Nat.blt d n = true) (hk : knowsOp L o.op = true)
    (hr : (execOp (evF L) o).run P w = .ok (.enter f args) w) {R : Value → World → Prop} (hc : Calls P f args w fun e w' => ∃ v, e = .returned v ∧ R v w')
    (k : ∀ v w', R v w' → WL P ops Q rest n ((d, v) :: L) w') : WL P ops Q (o :: rest) n L w := fun a H => by
  refine wpList_plain hg fun K hK => ?_
  unfold Oper.wp
  rw [exec_has H hk, hr, Oper.upon_enter]
  refine hc.mono fun e w' ⟨v, he, hR⟩ => ?_
  subst he
  rw [hd]
  exact hK _ _ (k v w' hR _ (H.put hn v))
/-- A call of a Go function without results. -/
theorem s_enter0 {o : Oper} {f : FuncId} {args : Array Value} (hg : o.guard = none) (hd : o.dst = none) (hk : knowsOp L o.op = true)
    (hr : (execOp (evF L) o).run P w = .ok (.enter f args) w) {R : Value → World → Prop} (hc : Calls P f args w fun e w' => ∃ v, e = .returned v ∧ R v w')
    (k : ∀ v w', R v w' → WL P ops Q rest n L w') : WL P ops Q (o :: rest) n L w := fun a H => by
  refine wpList_plain hg fun K hK => ?_
  unfold Oper.wp
  rw [exec_has H hk, hr, Oper.upon_enter]
  refine hc.mono fun e w' ⟨v, he, hR⟩ => ?_
  subst he
  rw [hd]
  exact hK _ _ (k v w' hR _ H)
theorem s_nil (h : WE Q .normal n L w) : WL P ops Q [] n L w := h
/-- A guarded operation whose guard holds: as an unguarded one. -/
theorem s_on {o : Oper} {i t : Nat} {b : Bool} (hg : o.guard = some (i, b)) (hi : (ops[i]?).bind (·.dst) = some t) (ht : lk L t = some (.bool b))
    (k : WL P ops Q ({ o with guard := none } :: rest) n L w) : WL P ops Q (o :: rest) n L w := fun a H => by
  replace k := k a H
  unfold wpList at k ⊢
  have hw : Region.wanted o (yielded ops a.tmps) = true := by
    unfold Region.wanted
    rw [hg]
    simp only
    unfold yielded
    rw [hi]
    have h2 := H.get t _ ht
    simp only [Option.bind_some]
    rw [Array.getD_eq_getD_getElem?] at h2
    cases h3 : a.tmps[t]? with
    | none => rw [h3] at h2; simp [undef] at h2
    | some u => rw [h3] at h2; simp at h2; subst h2; simp
  rw [if_pos hw]
  have hw2 : Region.wanted { o with guard := none } (yielded ops a.tmps) = true := rfl
  rw [if_pos hw2] at k
  exact k
/-- A guarded operation whose guard doesn't hold. -/
theorem s_off {o : Oper} {d i t : Nat} {b c : Bool} (hg : o.guard = some (i, b)) (hd : o.dst = some d) (hn : Nat.blt d n = true) (hi : (ops[i]?).bind (·.dst) = some t)
    (ht : lk L t = some (.bool c)) (hb : c = !b) (k : WL P ops Q rest n ((d, undef) :: L) w) : WL P ops Q (o :: rest) n L w := fun a H => by
  unfold wpList
  have hw : Region.wanted o (yielded ops a.tmps) = false := by
    unfold Region.wanted
    rw [hg]
    simp only
    unfold yielded
    rw [hi]
    have h2 := H.get t _ ht
    simp only [Option.bind_some]
    rw [Array.getD_eq_getD_getElem?] at h2
    subst hb
    cases h3 : a.tmps[t]? with
    | none => simp
    | some u => rw [h3] at h2; simp at h2; subst h2; cases b <;> simp
  rw [if_neg (by rw [hw]; simp), hd]
  exact k _ (H.put hn undef)

/-! ### Control -/
variable {x y : Code}
theorem c_region {id : Nat} {l : List Oper} (h : WL P l.toArray (Exit.then (y.wp P Q) Q) l n L w) : WC P (Code.seq (Code.region id l.toArray false) y) Q n L w :=
  fun a H => wp_seq (wp_region_lit (h a H))
theorem c_region1 {id : Nat} {l : List Oper} (h : WL P l.toArray Q l n L w) : WC P (Code.region id l.toArray false) Q n L w := fun a H => wp_region_lit (h a H)
theorem c_seq (h : WC P x (Exit.then (y.wp P Q) Q) n L w) : WC P (Code.seq x y) Q n L w := fun a H => wp_seq (h a H)
theorem c_skip (h : WE Q .normal n L w) : WC P .skip Q n L w := fun a H => wp_skip (h a H)
theorem c_exit {id : Nat} (h : WE Q (.exit id) n L w) : WC P (.exit id) Q n L w := fun a H => wp_exit (h a H)
theorem c_ret (h : WE Q .ret n L w) : WC P .ret Q n L w := fun a H => wp_ret (h a H)
theorem c_block {id : Nat} {c : Code} (h : WC P c (Exit.inBlock id Q) n L w) : WC P (.block id c) Q n L w := fun a H => wp_block (h a H)
theorem c_if {c : Operand} {t : Bool} (hc : ev L c = some (.bool t)) (ht : t = true → WC P x Q n L w) (hf : t = false → WC P y Q n L w) : WC P (Code.cond c x y) Q n L w :=
  fun a H => wp_cond_split (H.ev hc) (fun e => ht e a H) (fun e => hf e a H)
theorem c_then {c : Operand} (hc : ev L c = some (.bool true)) (h : WC P x Q n L w) : WC P (Code.cond c x y) Q n L w := fun a H => wp_cond_true (H.ev hc) (h a H)
theorem c_else {c : Operand} (hc : ev L c = some (.bool false)) (h : WC P y Q n L w) : WC P (Code.cond c x y) Q n L w := fun a H => wp_cond_false (H.ev hc) (h a H)
theorem e_then {next : Act → World → Prop} (h : WN next n L w) : WE (Exit.then next Q) .normal n L w := h
theorem e_thenX {next : Act → World → Prop} {i : Nat} (h : WE Q (.exit i) n L w) : WE (Exit.then next Q) (.exit i) n L w := h
theorem e_thenR {next : Act → World → Prop} (h : WE Q .ret n L w) : WE (Exit.then next Q) .ret n L w := h
theorem e_blk {i : Nat} (h : WE Q .normal n L w) : WE (Exit.inBlock i Q) .normal n L w := h
theorem e_blkX {i : Nat} (h : WE Q .normal n L w) : WE (Exit.inBlock i Q) (.exit i) n L w := fun a H => by
  simp only [Exit.inBlock, if_true]; exact h a H
theorem e_blkY {i j : Nat} (hij : Nat.beq i j = false) (h : WE Q (.exit i) n L w) : WE (Exit.inBlock j Q) (.exit i) n L w := fun a H => by
  have : i ≠ j := fun e => by subst e; simp at hij
  simp only [Exit.inBlock, if_neg this]; exact h a H
theorem e_blkR {i : Nat} (h : WE Q .ret n L w) : WE (Exit.inBlock i Q) .ret n L w := h
/-- The slots `ts` alone are known any more. -/
theorem w_only {F : Act → World → Prop} (ts : List Nat) {L' : Slots} (h : pickSlots L ts = L') (k : WN F n L' w) : WN F n L w := fun a H => k a (H.only ts h)
/-- A slot's bool is one of two. -/
theorem w_bool {F : Act → World → Prop} {t : Nat} {c : Bool} (ht : lk L t = some (.bool c)) (h1 : c = true → WN F n ((t, .bool true) :: L) w) (h2 : c = false → WN F n ((t, .bool false) :: L) w) : WN F n L w := fun a H => by
  have hk : ∀ b : Bool, c = b → Has n ((t, .bool b) :: L) a := fun b e => ⟨H.size, H.defers, fun s v hs => by
    unfold lk at hs
    split at hs
    · rename_i e1
      have : t = s := Nat.eq_of_beq_eq_true e1
      subst this
      have hs := Option.some.inj hs
      rw [← hs, ← e]; exact H.get _ _ ht
    · exact H.get _ _ hs⟩
  cases c with
  | true => exact h1 rfl a (hk true rfl)
  | false => exact h2 rfl a (hk false rfl)
/-- A slot's value said otherwise. -/
theorem w_eq {F : Act → World → Prop} {t : Nat} {u v : Value} (ht : lk L t = some u) (e : u = v) (h : WN F n ((t, v) :: L) w) : WN F n L w := fun a H =>
  h a ⟨H.size, H.defers, fun s x hs => by
    unfold lk at hs
    split at hs
    · rename_i e1
      have : t = s := Nat.eq_of_beq_eq_true e1
      subst this
      have hs := Option.some.inj hs
      rw [← hs, ← e]; exact H.get _ _ ht
    · exact H.get _ _ hs⟩
/-- The loop's own continuation. -/
def Again (J : Nat → Slots → World → Prop) (n k : Nat) : Act → World → Prop := fun a w => ∃ k', k' < k ∧ ∃ L, J k' L w ∧ Has n L a
theorem e_again {J : Nat → Slots → World → Prop} {k k' : Nat} (ts : List Nat) {L' : Slots} (hk : k' < k) (hL : pickSlots L ts = L') (hJ : J k' L' w) : WN (Again J n k) n L w :=
  fun a H => ⟨k', hk, L', hJ, H.only ts hL⟩
theorem c_loop {c : Code} (J : Nat → Slots → World → Prop) {k : Nat} (ts : List Nat) {L' : Slots} (hL : pickSlots L ts = L') (h0 : J k L' w)
    (step : ∀ k L w, J k L w → WC P c (Exit.then (Again J n k) Q) n L w) : WC P (Code.loop c) Q n L w := fun a H => by
  intro b kk cs
  have key : ∀ k a w, (∃ L, J k L w ∧ Has n L a) → ∃ e a' w', Q e a' w' ∧ Arrives P (lone (b.at a (.code c :: .inLoop c :: kk)) cs w) b kk cs e a' w' := by
    intro k
    induction k using Nat.strongRecOn with
    | _ k ih =>
      intro a w ⟨L, hJ, H⟩
      obtain ⟨e, a₁, w₁, hq, harr⟩ := step k L w hJ a H b (.inLoop c :: kk) cs
      cases e with
      | normal =>
        obtain ⟨k', hlt, hI₁⟩ := hq
        obtain ⟨e₂, a₂, w₂, hq₂, harr₂⟩ := ih k' hlt a₁ w₁ hI₁
        exact ⟨e₂, a₂, w₂, hq₂, .of_steps (Steps.trans harr (.one step_inLoop)) harr₂⟩
      | exit id => exact ⟨_, a₁, w₁, hq, .pass (x := .inLoop c) rfl (fun _ _ => .inl (by simp)) harr⟩
      | goto l => exact ⟨_, a₁, w₁, hq, .pass (x := .inLoop c) rfl (fun _ _ => .inl (by simp)) harr⟩
      | ret => exact ⟨_, a₁, w₁, hq, .pass (x := .inLoop c) rfl (fun _ _ => .inl (by simp)) harr⟩
      | panic ch => exact ⟨_, a₁, w₁, hq, .pass (x := .inLoop c) rfl (fun _ _ => .inl (by simp)) harr⟩
      | outgrown => exact ⟨_, a₁, w₁, hq, .pass (x := .inLoop c) rfl (fun _ _ => .inl (by simp)) harr⟩
  obtain ⟨e, a', w', hq, harr⟩ := key k a w ⟨L', h0, H.only ts hL⟩
  exact ⟨e, a', w', hq, .of_steps (.one step_loop) harr⟩
end
end Gw
end PartBase3
section PartBase4
namespace Gw
open Go Go.RowKit

/-! ### Types -/
def isAggD : TypeDesc → Bool
  | .struct _ | .array _ _ => true
  | _ => false
/-- A type's zero value, cells, bytes, and whether it is an aggregate. -/
def tyOf (P : Program) (T : TypeId) : Option (Value × Nat × Nat × Bool) :=
  match P.info? T, P.underlying T with
  | some i, some u => match i.zero with | some z => some (z, i.size, i.bytes, isAggD u) | none => none
  | _, _ => none
section
variable {P : Program} {T : TypeId} {z : Value} {s by_ : Nat} {g : Bool} {w : World}
theorem tyOf_parts (h : tyOf P T = some (z, s, by_, g)) : ∃ i u, P.info? T = some i ∧ P.underlying T = some u ∧ i.zero = some z ∧ i.size = s ∧ i.bytes = by_ ∧ isAggD u = g := by
  unfold tyOf at h
  cases hi : P.info? T with
  | none => rw [hi] at h; cases h
  | some i =>
    cases hu : P.underlying T with
    | none => rw [hi, hu] at h; cases h
    | some u =>
      rw [hi, hu] at h
      cases hz : i.zero with
      | none => simp [hz] at h
      | some z' =>
        simp only [hz, Option.some.injEq, Prod.mk.injEq] at h
        obtain ⟨rfl, rfl, rfl, rfl⟩ := h
        exact ⟨i, u, rfl, rfl, hz, rfl, rfl, rfl⟩
theorem run_sizeOf (h : tyOf P T = some (z, s, by_, g)) : (Go.sizeOf T).run P w = .ok s w := by
  obtain ⟨i, u, hi, hu, hz, rfl, rfl, hg⟩ := tyOf_parts h
  simp [Go.sizeOf, typeInfo, hi]
theorem run_zero (h : tyOf P T = some (z, s, by_, g)) : (zeroValue T).run P w = .ok z w := by
  obtain ⟨i, u, hi, hu, hz, rfl, rfl, hg⟩ := tyOf_parts h
  simp [zeroValue, typeInfo, hi, hz]
theorem run_isAgg (h : tyOf P T = some (z, s, by_, g)) : (isAgg T).run P w = .ok g w := by
  obtain ⟨i, u, hi, hu, hz, rfl, rfl, hg⟩ := tyOf_parts h
  subst hg
  cases u <;> simp [isAgg, run_underlying hu, isAggD]
theorem add_none (b o n : Nat) : Addr.add ⟨b, o, none⟩ n = ⟨b, o + n, none⟩ := by
  unfold Addr.add
  split
  · rename_i h; subst h; rfl
  · rfl

/-! ### Loads -/
theorem ld1 (h : tyOf P T = some (z, s, by_, false)) {p : Addr} {v : Value} (hc : w.cell? p = some v) : (loadVar T p).run P w = .ok v w := by
  simp [loadVar, run_isAgg h, run_load, hc]
theorem ldk (h : tyOf P T = some (z, s, by_, true)) {p : Addr} {cs : List Value} (hs : cs.length = s) (hc : ∀ j v, cs[j]? = some v → w.cell? (p.add j) = some v) : (loadVar T p).run P w = .ok (.agg cs.toArray) w := by
  subst hs
  have := run_loadCells_list (P := P) (w := w) p cs hc
  simp [loadVar, run_isAgg h, run_sizeOf h, this]

/-! ### Stores -/
def putL (cs : Array Value) (o : Nat) : List Value → Array Value
  | [] => cs
  | v :: r => putL (cs.setIfInBounds o v) (o + 1) r
theorem size_putL (cs : Array Value) (o : Nat) (vs : List Value) : (putL cs o vs).size = cs.size := by
  induction vs generalizing cs o with
  | nil => rfl
  | cons v r ih => unfold putL; rw [ih]; simp
theorem get_putL (cs : Array Value) (o : Nat) (vs : List Value) (h : o + vs.length ≤ cs.size) (k : Nat) :
    (putL cs o vs)[k]? = if k < o then cs[k]? else if k < o + vs.length then vs[k - o]? else cs[k]? := by
  induction vs generalizing cs o with
  | nil => unfold putL; simp only [List.length_nil, Nat.add_zero]; split <;> rfl
  | cons v r ih =>
    unfold putL
    simp only [List.length_cons] at h ⊢
    rw [ih _ _ (by simp; omega)]
    by_cases h1 : k < o
    · rw [if_pos (by omega), if_pos h1, Array.getElem?_setIfInBounds_ne (by omega)]
    · by_cases h2 : k = o
      · subst h2
        rw [if_pos (by omega), if_neg h1, if_pos (by omega), Array.getElem?_setIfInBounds_self_of_lt (by omega)]
        simp
      · rw [if_neg (by omega), if_neg h1]
        by_cases h3 : k < o + 1 + r.length
        · rw [if_pos h3, if_pos (by omega)]
          have : k - o = (k - (o + 1)) + 1 := by omega
          rw [this]; simp
        · rw [if_neg h3, if_neg (by omega), Array.getElem?_setIfInBounds_ne (by omega)]
def noFz (n : Nat) (fz : Nat × Nat) : Prop := ∀ i, i < n → ¬ (fz.1 ≤ i ∧ i < fz.2)
theorem noFz0 (n : Nat) : noFz n (0, 0) := fun i _ h => absurd h.2 (Nat.not_lt_zero i)
theorem run_storeCells {b : Nat} {T' : TypeId} {fz : Nat × Nat} : ∀ (vs : List Value) (w : World) (o i : Nat) (cs : Array Value), w.heap[b]? = some (.cells cs T' fz) → noFz cs.size fz → o + i + vs.length ≤ cs.size → (∀ v ∈ vs, v.oneCell' = true) →
    ∃ w', (storeCells ⟨b, o, none⟩ vs i).run P w = .ok () w' ∧ Bel [b] w w' ∧ w'.heap[b]? = some (.cells (putL cs (o + i) vs) T' fz)
  | [], w, o, i, cs, hb, _, _, _ => ⟨w, by simp [storeCells], Bel.refl _ _, by simpa [putL] using hb⟩
  | v :: r, w, o, i, cs, hb, hz, hl, h1 => by
    simp only [List.length_cons] at hl
    have hc : w.cell? ⟨b, o + i, none⟩ = some (cs[o + i]'(by omega)) := by
      simp only [World.cell?, hb]
      simp [Array.getElem?_eq_getElem (show o + i < cs.size by omega)]
    have hf : w.frozen? ⟨b, o + i, none⟩ = false := by
      simp only [World.frozen?, hb]
      have := hz (o + i) (by omega)
      simpa using this
    have hst : (store ⟨b, o + i, none⟩ v).run P w = .ok () (w.setCell ⟨b, o + i, none⟩ v) := by
      rw [run_store P w _ v _ (h1 v (by simp)), hc]
      simp [hf]
    have hh := setCell_heap v hb (o := o + i) b
    rw [if_pos rfl] at hh
    obtain ⟨w', hr, hbel, hw'⟩ := run_storeCells r (w.setCell ⟨b, o + i, none⟩ v) o (i + 1) _ hh (by simpa using hz) (by simp; omega) (fun u hu => h1 u (by simp [hu]))
    refine ⟨w', ?_, ?_, ?_⟩
    · unfold storeCells
      simp only [Sem.run_bind, add_none, hst, Result.andThen_ok, hr]
    · exact (Bel.setCell w v (.inr (by simp))).trans hbel
    · rw [hw', ← Nat.add_assoc, putL]
theorem st1 (h : tyOf P T = some (z, 1, by_, g)) {b o : Nat} {cs : Array Value} {T' : TypeId} {v : Value} (hv : v.oneCell' = true) (hb : w.heap[b]? = some (.cells cs T')) (ho : o < cs.size) :
    ∃ w', (storeVar T ⟨b, o, none⟩ v).run P w = .ok () w' ∧ Bel [b] w w' ∧ w'.heap[b]? = some (.cells (cs.setIfInBounds o v) T') := by
  have hcs : v.cells = #[v] := by cases v <;> first | rfl | cases hv
  obtain ⟨w', hr, h2, h3⟩ := run_storeCells (P := P) [v] w o 0 cs hb (noFz0 _) (by simp; omega) (by simp [hv])
  refine ⟨w', ?_, h2, by simpa [putL] using h3⟩
  unfold storeVar
  simp [hcs, run_sizeOf h, hr]
theorem stk (h : tyOf P T = some (z, s, by_, g)) {b o : Nat} {cs : Array Value} {T' : TypeId} {vs : List Value} (hl : vs.length = s) (hv : ∀ v ∈ vs, v.oneCell' = true) (hb : w.heap[b]? = some (.cells cs T')) (ho : o + s ≤ cs.size) :
    ∃ w', (storeVar T ⟨b, o, none⟩ (.agg vs.toArray)).run P w = .ok () w' ∧ Bel [b] w w' ∧ w'.heap[b]? = some (.cells (putL cs o vs) T') := by
  obtain ⟨w', hr, h2, h3⟩ := run_storeCells (P := P) vs w o 0 cs hb (noFz0 _) (by simp; omega) hv
  refine ⟨w', ?_, h2, by simpa using h3⟩
  unfold storeVar
  simp [Value.cells, run_sizeOf h, hl, hr]
end

/-! ### What an operation runs to -/
/-- In world `w`, with the slots `L`, the operation leaves the value `v` and the world as it is. -/
structure Runs (P : Program) (L : Slots) (o : Oper) (w : World) (v : Value) : Prop where
  knows : knowsOp L o.op = true
  run : (execOp (evF L) o).run P w = .ok (.value v) w
section
variable {P : Program} {ops : Array Oper} {Q : Exit → Act → World → Prop} {rest : List Oper} {n : Nat} {L : Slots} {a : Act} {w w0 : World} {X : List Nat} {R : Boxes} {m m0 : Mem}
variable {T : Nat} {dd : Option Tmp} {d : Nat} {x y : Operand} {typ : TypeId} {pos : String} {af : Array Edge} {gd : Option (Nat × Bool)} {z : Value} {s by_ : Nat} {g : Bool}
theorem evF_eq {x : Operand} {v : Value} (h : ev L x = some v) : evF L x = v := by simp [evF, h]
theorem knows1 {x : Operand} {v : Value} (h : ev L x = some v) : knows L [x] = true := by simp [knows, h]
theorem knows2 {x y : Operand} {v u : Value} (h : ev L x = some v) (h' : ev L y = some u) : knows L [x, y] = true := by simp [knows, h, h']
/-- The step. -/
theorem s_v {o : Oper} {v : Value} (h : Runs P L o w v) (hg : o.guard = none) (hd : o.dst = some d) (hn : Nat.blt d n = true) (k : WL P ops Q rest n ((d, v) :: L) w) : WL P ops Q (o :: rest) n L w :=
  s_op v hg hd hn h.knows h.run k
theorem r_load {p : Addr} {v : Value} (hx : ev L x = some (.pointer (some p))) (hl : (loadVar T p).run P w = .ok v w) : Runs P L { dst := dd, op := .load T x, type := typ, pos := pos, after := af, guard := gd } w v :=
  ⟨knows1 hx, by simp only [execOp, Instr.loadAt, evF_eq hx, Instr.sureAddr, Sem.run_bind, Sem.run_pure, Result.andThen_ok, hl]⟩
/-- A load of one cell of box `i`. -/
theorem r_get (i : Nat) {b o : Nat} {cs : Array Value} {T' : TypeId} {fz : Nat × Nat} {v : Value} (S : St X w0 m0 R m w) (hT : tyOf P T = some (z, s, by_, false))
    (hx : ev L x = some (.pointer (some ⟨b, o, none⟩))) (hi : R[i]? = some (b, .cells cs T' fz)) (hv : cs[o]? = some v) : Runs P L { dst := dd, op := .load T x, type := typ, pos := pos, after := af, guard := gd } w v :=
  r_load hx (ld1 hT (S.cell i hi hv))
/-- A load of an aggregate out of box `i`, from cell `o` on. -/
theorem r_getk (i : Nat) {b o : Nat} {cs : Array Value} {vs : List Value} {T' : TypeId} {fz : Nat × Nat} (S : St X w0 m0 R m w) (hT : tyOf P T = some (z, s, by_, true))
    (hx : ev L x = some (.pointer (some ⟨b, o, none⟩))) (hi : R[i]? = some (b, .cells cs T' fz)) (hs : vs.length = s) (hv : (cs.toList.drop o).take s = vs) : Runs P L { dst := dd, op := .load T x, type := typ, pos := pos, after := af, guard := gd } w (.agg vs.toArray) :=
  r_load hx (ldk hT hs fun j v hj => by
    rw [add_none]
    refine S.cell i hi ?_
    rw [← hv] at hj
    rw [List.getElem?_take] at hj
    split at hj
    · simpa using hj
    · cases hj)
theorem r_move {v : Value} (hx : ev L x = some v) : Runs P L { dst := dd, op := .move x, type := typ, pos := pos, after := af, guard := gd } w v :=
  ⟨knows1 hx, by simp only [execOp, evF_eq hx, Sem.run_pure]⟩
theorem r_assign {v : Value} (hx : ev L x = some v) : Runs P L { dst := dd, op := .assign x, type := typ, pos := pos, after := af, guard := gd } w v :=
  ⟨knows1 hx, by simp only [execOp, evF_eq hx, Sem.run_pure]⟩

/-! ### Steps over memory -/
/-- A store of one cell of box `i`. -/
theorem s_set (i : Nat) {b o : Nat} {cs : Array Value} {T' : TypeId} {v : Value} (S : St X w0 m0 R m w) (hT : tyOf P T = some (z, 1, by_, g))
    (hx : ev L x = some (.pointer (some ⟨b, o, none⟩))) (hy : ev L y = some v) (hv : v.oneCell' = true) (hi : R[i]? = some (b, .cells cs T')) (ho : Nat.blt o cs.size = true) {R' : Boxes} (hR : R.set i (b, .cells (cs.setIfInBounds o v) T') = R')
    (k : ∀ w', St X w0 m0 R' m w' → WL P ops Q rest n L w') : WL P ops Q ({ dst := none, op := .store T x y, type := typ, pos := pos, after := af, guard := none } :: rest) n L w := by
  obtain ⟨w', hr, hb, hw⟩ := st1 (P := P) (w := w) hT hv (S.boxes i _ hi).2.1 (by simpa [Nat.blt_eq] using ho)
  exact s_do rfl rfl (knows2 hx hy) (by simp only [execOp, Instr.storeAt, evF_eq hx, evF_eq hy, Instr.sureAddr, Sem.run_bind, Sem.run_pure, Result.andThen_ok, hr]) (k w' (hR ▸ S.write i hi hb hw))
/-- A store of an aggregate into box `i`, from cell `o` on. -/
theorem s_setk (i : Nat) {b o : Nat} {cs : Array Value} {T' : TypeId} {vs : List Value} (S : St X w0 m0 R m w) (hT : tyOf P T = some (z, s, by_, g))
    (hx : ev L x = some (.pointer (some ⟨b, o, none⟩))) (hy : ev L y = some (.agg vs.toArray)) (hl : vs.length = s) (hv : ∀ v ∈ vs, v.oneCell' = true) (hi : R[i]? = some (b, .cells cs T')) (ho : Nat.ble (o + s) cs.size = true) {R' : Boxes} (hR : R.set i (b, .cells (putL cs o vs) T') = R')
    (k : ∀ w', St X w0 m0 R' m w' → WL P ops Q rest n L w') : WL P ops Q ({ dst := none, op := .store T x y, type := typ, pos := pos, after := af, guard := none } :: rest) n L w := by
  obtain ⟨w', hr, hb, hw⟩ := stk (P := P) (w := w) hT hl hv (S.boxes i _ hi).2.1 (by simpa [Nat.ble_eq] using ho)
  exact s_do rfl rfl (knows2 hx hy) (by simp only [execOp, Instr.storeAt, evF_eq hx, evF_eq hy, Instr.sureAddr, Sem.run_bind, Sem.run_pure, Result.andThen_ok, hr]) (k w' (hR ▸ S.write i hi hb hw))
/-- `box`: a variable that lies in memory. -/
theorem s_box {v : Value} {cs : Array Value} (S : St X w0 m0 R m w) (hx : ev L x = some v) (hcs : v.cells = cs) (hn : Nat.blt d n = true)
    (k : ∀ w' b, St X w0 m0 ((b, .cells cs T) :: R) m w' → WL P ops Q rest n ((d, .pointer (some ⟨b, 0, none⟩)) :: L) w') :
    WL P ops Q ({ dst := some d, op := .box T x, type := typ, pos := pos, after := af, guard := none } :: rest) n L w := by
  subst hcs
  exact s_op (.pointer (some ⟨w.heap.size, 0, none⟩)) rfl rfl hn (knows1 hx) (w' := w.alloc (.cells v.cells T)) (by simp [execOp, Instr.box, newVar, newRow, evF_eq hx]) (k _ _ (S.box _))
/-- `alloc`: one with its zero value. -/
theorem s_alloc {cs : Array Value} (S : St X w0 m0 R m w) (hT : tyOf P T = some (z, s, by_, g)) (hcs : z.cells = cs) (hn : Nat.blt d n = true)
    (k : ∀ w' b, St X w0 m0 ((b, .cells cs T) :: R) m w' → WL P ops Q rest n ((d, .pointer (some ⟨b, 0, none⟩)) :: L) w') :
    WL P ops Q ({ dst := some d, op := .alloc T, type := typ, pos := pos, after := af, guard := none } :: rest) n L w := by
  subst hcs
  exact s_op (.pointer (some ⟨w.heap.size, 0, none⟩)) rfl rfl hn rfl (w' := w.alloc (.cells z.cells T)) (by simp [execOp, Instr.alloc, newVar, newRow, run_zero hT]) (k _ _ (S.box _))
end
end Gw
end PartBase4
section PartBase5
namespace Gw
open Go Go.RowKit

section
variable {P : Program} {T : TypeId} {w : World}
theorem wrap_i64 {n : Int} (h : -9223372036854775808 ≤ n ∧ n ≤ 9223372036854775807) : IntKind.i64.wrap n = n := IntWalk.i64_in n h
theorem b_add {i j : Int} (h : -9223372036854775808 ≤ i + j ∧ i + j ≤ 9223372036854775807) (w : World) : (binOp .add T (.int .i64 i) (.int .i64 j)).run P w = .ok (.int .i64 (i + j)) w := by
  simp only [binOp, Op.intArith, wrap_i64 h]; rfl
theorem b_sub {i j : Int} (h : -9223372036854775808 ≤ i - j ∧ i - j ≤ 9223372036854775807) (w : World) : (binOp .sub T (.int .i64 i) (.int .i64 j)).run P w = .ok (.int .i64 (i - j)) w := by
  simp only [binOp, Op.intArith, wrap_i64 h]; rfl
theorem b_mul {i j : Int} (h : -9223372036854775808 ≤ i * j ∧ i * j ≤ 9223372036854775807) (w : World) : (binOp .mul T (.int .i64 i) (.int .i64 j)).run P w = .ok (.int .i64 (i * j)) w := by
  simp only [binOp, Op.intArith, wrap_i64 h]; rfl
theorem b_quo {i j : Int} (hi : 0 ≤ i) (hi2 : i ≤ 9223372036854775807) (h : 1 ≤ j) (w : World) : (binOp .quo T (.int .i64 i) (.int .i64 j)).run P w = .ok (.int .i64 (i / j)) w := by
  have e : i.tdiv j = i / j := Int.tdiv_eq_ediv_of_nonneg hi
  have h2 : i / j ≤ i := Int.ediv_le_self _ hi
  have h3 : 0 ≤ i / j := Int.ediv_nonneg hi (by omega)
  simp only [binOp, Op.intDiv, if_neg (show ¬ j = 0 by omega), e, wrap_i64 (n := i / j) ⟨by omega, by omega⟩]; rfl
theorem b_rem {i j : Int} (h : j ≠ 0) (w : World) : (binOp .rem T (.int .i64 i) (.int .i64 j)).run P w = .ok (.int .i64 (i.tmod j)) w := by
  simp only [binOp, Op.intDiv, if_neg h]; rfl
theorem b_lss {k : IntKind} {i j : Int} (w : World) : (binOp .lss T (.int k i) (.int k j)).run P w = .ok (.bool (decide (i < j))) w := by simp [binOp, Op.intCmp]
theorem b_leq {k : IntKind} {i j : Int} (w : World) : (binOp .leq T (.int k i) (.int k j)).run P w = .ok (.bool (decide (i ≤ j))) w := by simp [binOp, Op.intCmp]
theorem b_gtr {k : IntKind} {i j : Int} (w : World) : (binOp .gtr T (.int k i) (.int k j)).run P w = .ok (.bool (decide (j < i))) w := by simp [binOp, Op.intCmp]
theorem b_geq {k : IntKind} {i j : Int} (w : World) : (binOp .geq T (.int k i) (.int k j)).run P w = .ok (.bool (decide (j ≤ i))) w := by simp [binOp, Op.intCmp]
theorem b_eql {k : IntKind} {i j : Int} (w : World) : (binOp .eql T (.int k i) (.int k j)).run P w = .ok (.bool (decide (i = j))) w := by
  simp [binOp, Op.intCmp]; rfl
theorem b_neq {k : IntKind} {i j : Int} (w : World) : (binOp .neq T (.int k i) (.int k j)).run P w = .ok (.bool (!decide (i = j))) w := by
  simp [binOp, Op.intCmp]; rfl
theorem run_equalIn_bool {i j : Bool} (hT : P.underlying T = some .bool) (d : Nat) (w : World) : (Op.equalIn (d + 1) T (.bool i) (.bool j)).run P w = .ok (i == j) w := by
  simp [Op.equalIn, run_underlying hT]
theorem bb_eql {i j : Bool} (hT : P.underlying T = some .bool) (w : World) : (binOp .eql T (.bool i) (.bool j)).run P w = .ok (.bool (i == j)) w := by
  simp only [binOp, Op.equal, Sem.run_bind, show Op.maxDepth = 9999 + 1 from rfl, run_equalIn_bool hT, Result.andThen_ok, Sem.run_pure]
theorem bb_neq {i j : Bool} (hT : P.underlying T = some .bool) (w : World) : (binOp .neq T (.bool i) (.bool j)).run P w = .ok (.bool (!(i == j))) w := by
  simp only [binOp, Op.equal, Sem.run_bind, show Op.maxDepth = 9999 + 1 from rfl, run_equalIn_bool hT, Result.andThen_ok, Sem.run_pure]
end

/-- A string of bytes, as a value. -/
def str (l : List UInt8) : Value := .string ⟨l.toArray⟩
theorem str_toList (l : List UInt8) : (⟨l.toArray⟩ : ByteArray).toList = l := by
  simp [ByteArray.toList_eq]
theorem str_size (l : List UInt8) : (⟨l.toArray⟩ : ByteArray).size = l.length := by
  simp [ByteArray.size]
section
variable {P : Program} {T : TypeId}
theorem bs_eql {i j : List UInt8} (w : World) : (binOp .eql T (str i) (str j)).run P w = .ok (.bool (decide (i = j))) w := by
  simp only [binOp, str, Op.stringOp, str_toList, show (i == j) = decide (i = j) by rw [Bool.eq_iff_iff]; simp]; rfl
theorem bs_neq {i j : List UInt8} (w : World) : (binOp .neq T (str i) (str j)).run P w = .ok (.bool (!decide (i = j))) w := by
  simp only [binOp, str, Op.stringOp, str_toList, show (i == j) = decide (i = j) by rw [Bool.eq_iff_iff]; simp]; rfl
theorem bs_lss {i j : List UInt8} (w : World) : (binOp .lss T (str i) (str j)).run P w = .ok (.bool (Op.bytesLess i j)) w := by
  simp only [binOp, str, Op.stringOp, str_toList]; rfl
theorem bs_add {i j : List UInt8} (h : i.length + j.length ≤ 9223372036854775807) (w : World) : (binOp .add T (str i) (str j)).run P w = .ok (str (i ++ j)) w := by
  simp only [binOp, str, Op.stringOp, str_size]
  rw [if_neg (by show ¬ ((i.length + j.length : Nat) : Int) > 9223372036854775807; omega)]
  simp only [Sem.run_pure, Result.ok.injEq, Value.string.injEq, and_true]
  simp [ByteArray.ext_iff]
end

section
variable {P : Program} {ops : Array Oper} {Q : Exit → Act → World → Prop} {rest : List Oper} {n : Nat} {L : Slots} {a : Act} {w w0 : World} {X : List Nat} {R : Boxes} {m m0 : Mem}
variable {d T T2 : Nat} {dd : Option Tmp} {x y c : Operand} {typ : TypeId} {pos : String} {af : Array Edge} {gd : Option (Nat × Bool)} {z : Value} {s by_ : Nat} {g : Bool}
theorem s_end {next : Act → World → Prop} (h : WN next n L w) : WL P ops (Exit.then next Q) [] n L w := h
/-- An operator on two integers, two bools, two strings. -/
theorem r_ii {op : BinOp} {k k' : IntKind} {i j : Int} {v : Value} (hx : ev L x = some (.int k i)) (hy : ev L y = some (.int k' j)) (hr : ∀ w, (binOp op T (.int k i) (.int k' j)).run P w = .ok v w) :
    Runs P L { dst := dd, op := .binOp op T x y T2, type := typ, pos := pos, after := af, guard := gd } w v :=
  ⟨knows2 hx hy, by
    have hg : (eqGuard op T x y (.int k i) (.int k' j)).run P w = .ok () w := by
      unfold eqGuard; cases op <;> rfl
    simp only [execOp, evF_eq hx, evF_eq hy, Sem.run_bind, hg, hr, Result.andThen_ok, Sem.run_pure]⟩
theorem r_bb {op : BinOp} {i j : Bool} {v : Value} (hx : ev L x = some (.bool i)) (hy : ev L y = some (.bool j)) (hr : ∀ w, (binOp op T (.bool i) (.bool j)).run P w = .ok v w) :
    Runs P L { dst := dd, op := .binOp op T x y T2, type := typ, pos := pos, after := af, guard := gd } w v :=
  ⟨knows2 hx hy, by
    have hg : (eqGuard op T x y (.bool i) (.bool j)).run P w = .ok () w := by
      unfold eqGuard; cases op <;> rfl
    simp only [execOp, evF_eq hx, evF_eq hy, Sem.run_bind, hg, hr, Result.andThen_ok, Sem.run_pure]⟩
theorem r_ss {op : BinOp} {i j : List UInt8} {v : Value} (hx : ev L x = some (str i)) (hy : ev L y = some (str j)) (hr : ∀ w, (binOp op T (str i) (str j)).run P w = .ok v w) :
    Runs P L { dst := dd, op := .binOp op T x y T2, type := typ, pos := pos, after := af, guard := gd } w v :=
  ⟨knows2 hx hy, by
    have hg : (eqGuard op T x y (str i) (str j)).run P w = .ok () w := by
      unfold eqGuard str; cases op <;> rfl
    simp only [execOp, evF_eq hx, evF_eq hy, Sem.run_bind, hg, hr, Result.andThen_ok, Sem.run_pure]⟩
theorem r_not {i : Bool} (hx : ev L x = some (.bool i)) : Runs P L { dst := dd, op := .unOp .not T x, type := typ, pos := pos, after := af, guard := gd } w (.bool (!i)) :=
  ⟨knows1 hx, by simp only [execOp, evF_eq hx, Op.unary, Sem.run_bind, Result.andThen_ok, Sem.run_pure]⟩
theorem r_pick {t : Bool} {u v : Value} (hc : ev L c = some (.bool t)) (hx : ev L x = some u) (hy : ev L y = some v) : Runs P L { dst := dd, op := .pick c x y, type := typ, pos := pos, after := af, guard := gd } w (if t then u else v) :=
  ⟨by simp [knowsOp, opnds, knows, hc, hx, hy], by simp only [execOp, evF_eq hc, evF_eq hx, evF_eq hy, asBool, Sem.run_bind, Result.andThen_ok, Sem.run_pure]⟩
theorem r_pickT {u v : Value} (hc : ev L c = some (.bool true)) (hx : ev L x = some u) (hy : ev L y = some v) : Runs P L { dst := dd, op := .pick c x y, type := typ, pos := pos, after := af, guard := gd } w u := r_pick hc hx hy
theorem r_pickF {u v : Value} (hc : ev L c = some (.bool false)) (hx : ev L x = some u) (hy : ev L y = some v) : Runs P L { dst := dd, op := .pick c x y, type := typ, pos := pos, after := af, guard := gd } w v := r_pick hc hx hy
/-- `x && y`, `x || y`. -/
theorem r_and {t u : Bool} (hc : ev L c = some (.bool t)) (hx : ev L x = some (.bool u)) (hy : ev L y = some (.bool false)) : Runs P L { dst := dd, op := .pick c x y, type := typ, pos := pos, after := af, guard := gd } w (.bool (t && u)) := by
  have := r_pick (P := P) (dd := dd) (typ := typ) (pos := pos) (af := af) (gd := gd) (w := w) hc hx hy
  cases t <;> exact this
theorem r_or {t u : Bool} (hc : ev L c = some (.bool t)) (hx : ev L x = some (.bool true)) (hy : ev L y = some (.bool u)) : Runs P L { dst := dd, op := .pick c x y, type := typ, pos := pos, after := af, guard := gd } w (.bool (t || u)) := by
  have := r_pick (P := P) (dd := dd) (typ := typ) (pos := pos) (af := af) (gd := gd) (w := w) hc hx hy
  cases t <;> exact this
theorem r_nilCheck {p : Addr} (hx : ev L x = some (.pointer (some p))) : Runs P L { dst := dd, op := .nilCheck x, type := typ, pos := pos, after := af, guard := gd } w (.pointer (some p)) :=
  ⟨knows1 hx, by simp only [execOp, evF_eq hx, Sem.run_pure]⟩
/-- The offset of field `f` of struct type `T`, if the field has cells. -/
def fldOf (P : Program) (T f : Nat) : Option Nat :=
  match P.underlying T with
  | some (.struct fs) => match fs[f]? with
    | some fd => match P.info? fd.type with | some i => if i.size = 0 then none else some fd.offset | none => none
    | none => none
  | _ => none
theorem r_fieldAddr {f o b o' : Nat} (hx : ev L x = some (.pointer (some ⟨b, o, none⟩))) (hf : fldOf P T f = some o') : Runs P L { dst := dd, op := .fieldAddr T x f, type := typ, pos := pos, after := af, guard := gd } w (.pointer (some ⟨b, o + o', none⟩)) :=
  ⟨knows1 hx, by
    unfold fldOf at hf
    split at hf
    case h_2 => cases hf
    rename_i fs hu
    split at hf
    case h_2 => cases hf
    rename_i fd hfd
    split at hf
    case h_2 => cases hf
    rename_i i hi
    split at hf
    · cases hf
    rename_i hs
    obtain rfl := Option.some.inj hf
    simp [execOp, Instr.fieldAt, run_underlying hu, hfd, evF_eq hx, Instr.sureAddr, fieldPlace, Go.sizeOf, typeInfo, hi, hs, add_none]⟩
/-- .. of the variable's beginning. -/
theorem r_fieldAddr0 {f b o' : Nat} (hx : ev L x = some (.pointer (some ⟨b, 0, none⟩))) (hf : fldOf P T f = some o') : Runs P L { dst := dd, op := .fieldAddr T x f, type := typ, pos := pos, after := af, guard := gd } w (.pointer (some ⟨b, o', none⟩)) := by
  have := r_fieldAddr (P := P) (dd := dd) (typ := typ) (pos := pos) (af := af) (gd := gd) (w := w) hx hf
  rwa [Nat.zero_add] at this
/-- Part `i` of a tuple. -/
theorem r_extract {i : Nat} {vs : Array Value} {v : Value} (hx : ev L x = some (.tuple vs)) (hv : vs[i]? = some v) : Runs P L { dst := dd, op := .extract x i, type := typ, pos := pos, after := af, guard := gd } w v :=
  ⟨knows1 hx, by simp [execOp, evF_eq hx, Instr.extract, hv]⟩
/-- A struct put together. -/
theorem r_build {ps : Array (Nat × Operand)} {cs : Array Value} (hk : knowsOp L (.build T ps) = true) (hr : ∀ w, (Instr.build T (ps.map fun (i, x) => (i, evF L x))).run P w = .ok (.agg cs) w) :
    Runs P L { dst := dd, op := .build T ps, type := typ, pos := pos, after := af, guard := gd } w (.agg cs) :=
  ⟨hk, by simp only [execOp, hr, Sem.run_bind, Result.andThen_ok, Sem.run_pure]⟩
/-- A field of a struct's value. -/
theorem r_field {f : Nat} {cs : Array Value} {v : Value} (hx : ev L x = some (.agg cs)) (hr : ∀ w, (Instr.field T (.agg cs) f).run P w = .ok v w) : Runs P L { dst := dd, op := .field T x f, type := typ, pos := pos, after := af, guard := gd } w v :=
  ⟨knows1 hx, by simp only [execOp, evF_eq hx, hr, Sem.run_bind, Result.andThen_ok, Sem.run_pure]⟩
/-- A function with a body. -/
def callable (P : Program) (f : FuncId) : Bool := match P.funcs[f]? with | some fn => !fn.body.isNone && !(fn.name == "runtime.NumGoroutine") | none => false
theorem run_callFunc {f : FuncId} (hf : callable P f = true) (vs : Array Value) (w : World) : (callFunc f vs).run P w = .ok (.enter f vs) w := by
  unfold callable at hf
  cases h : P.funcs[f]? with
  | none => rw [h] at hf; cases hf
  | some fn =>
    rw [h] at hf
    simp only [Bool.and_eq_true, Bool.not_eq_true'] at hf
    simp only [callFunc, Sem.run_bind, run_program, Result.andThen_ok, h, hf.2, hf.1, Bool.false_eq_true, if_false, Sem.run_pure]
/-- A call of function `f`. -/
theorem s_call {f : FuncId} {args : Array Operand} {ats : Array TypeId} {vs : Array Value} (hk : knows L args.toList = true) (hv : args.map (evF L) = vs) (hf : callable P f = true)
    {Rl : Value → World → Prop} (hc : Calls P f vs w fun e w' => ∃ v, e = .returned v ∧ Rl v w') (hn : Nat.blt d n = true)
    (h : ∀ v w', Rl v w' → WL P ops Q rest n ((d, v) :: L) w') :
    WL P ops Q ({ dst := some d, op := .call { callee := .value (.func f), args := args, argTypes := ats }, type := typ, pos := pos, after := af, guard := none } :: rest) n L w :=
  s_enter rfl rfl hn (by simpa [knowsOp, opnds, callL, knows, ev] using hk) (by
    have hv' : args.map (evF L) = vs := hv
    have e : evF L (.func f) = .func (.func f) #[] #[] := rfl
    simp only [execOp, resolve, e, Deferred.ofValue, Sem.run_bind, Sem.run_pure, Result.andThen_ok, invoke]
    rw [← hv', Array.append_empty, Array.empty_append]
    exact run_callFunc hf _ _) hc h
end
end Gw
end PartBase5
section PartBase6
namespace Gw
open Go Go.RowKit

/-! ### Slices -/
class Upr {α : Type} (Rel : Mem → List Value → α → Prop) : Prop where
  up : ∀ {m m' : Mem} {cs : List Value} {x : α}, m.Le m' → Rel m cs x → Rel m' cs x
/-- What does not look into memory. -/
def Enc {α : Type} (e : α → List Value) : Mem → List Value → α → Prop := fun _ cs x => cs = e x
instance {α : Type} (e : α → List Value) : Upr (Enc e) := ⟨fun _ h => h⟩
/-- The slice at `oa` with this capacity has the elements `xs`, each of `k` cells that `Rel` tells of; `e` bytes an element. -/
structure SlA {α : Type} (k e : Nat) (Rel : Mem → List Value → α → Prop) (m : Mem) (oa : Option Addr) (cap : Nat) (xs : List α) : Prop where
  le : xs.length ≤ cap
  capb : cap ≤ 9223372036854775807
  row : xs = [] ∨ ∃ b off arr T fz, oa = some ⟨b, off, none⟩ ∧ m b = some (.cells arr T fz) ∧
    ∀ i (h : i < xs.length), ∃ cs : List Value, cs.length = k ∧ (∀ j, j < k → arr[off + i * k + j]? = cs[j]?) ∧ Rel m cs xs[i]
section
variable {α : Type} {k e : Nat} {Rel : Mem → List Value → α → Prop} {m m' : Mem} {oa : Option Addr} {cap : Nat} {xs : List α}
theorem SlA.up [Upr Rel] (F : SlA k e Rel m oa cap xs) (h : m.Le m') : SlA k e Rel m' oa cap xs :=
  ⟨F.le, F.capb, F.row.imp id fun ⟨b, off, arr, T, fz, h1, h2, h3⟩ => ⟨b, off, arr, T, fz, h1, h _ _ h2, fun i hi => let ⟨cs, h4, h5, h6⟩ := h3 i hi; ⟨cs, h4, h5, Upr.up h h6⟩⟩⟩
theorem SlA.none : SlA k e Rel m oa 0 ([] : List α) := ⟨by simp, by simp, .inl rfl⟩
theorem SlA.nil (h : cap ≤ 9223372036854775807) : SlA k e Rel m oa cap ([] : List α) := ⟨by simp, h, .inl rfl⟩
theorem SlA.len1 (F : SlA k e Rel m oa cap xs) (he : 1 ≤ e) : xs.length ≤ 9223372036854775807 := Nat.le_trans F.le F.capb
/-- Element `i`, in the world. -/
theorem SlA.at (F : SlA k e Rel m oa cap xs) {w : World} (hm : Sub m w) {i : Nat} (hi : i < xs.length) : ∃ b off, oa = some ⟨b, off, Option.none⟩ ∧ ∃ cs : List Value, cs.length = k ∧ Rel m cs xs[i] ∧
    ∀ j v, cs[j]? = some v → w.cell? ⟨b, off + i * k + j, Option.none⟩ = some v := by
  rcases F.row with h | ⟨b, off, arr, T, fz, h1, h2, h3⟩
  · subst h; simp at hi
  · obtain ⟨cs, h4, h5, h6⟩ := h3 i hi
    refine ⟨b, off, h1, cs, h4, h6, fun j v hv => ?_⟩
    have hj : j < k := by
      rcases Nat.lt_or_ge j k with h | h
      · exact h
      · rw [List.getElem?_eq_none (by omega)] at hv; cases hv
    simp only [World.cell?, hm _ _ h2]
    simp [h5 j hj, hv]
theorem SlA.drop (F : SlA k e Rel m oa cap xs) (l : Nat) (hl : l ≤ xs.length) : SlA k e Rel m (if cap = l then oa else oa.map (·.add (l * k))) (cap - l) (xs.drop l) := by
  refine ⟨by have := F.le; simp; omega, by have := F.capb; omega, ?_⟩
  rcases F.row with h | ⟨b, off, arr, T, fz, h1, h2, h3⟩
  · subst h; left; simp
  · by_cases hx : xs.length = l
    · left; simp [hx]
    · right
      have hc : cap ≠ l := by have := F.le; omega
      refine ⟨b, off + l * k, arr, T, fz, by rw [if_neg hc, h1]; simp [add_none], h2, fun i hi => ?_⟩
      simp at hi
      obtain ⟨cs, h4, h5, h6⟩ := h3 (l + i) (by omega)
      refine ⟨cs, h4, fun j hj => ?_, by simpa using h6⟩
      rw [← h5 j hj]
      congr 1
      rw [Nat.add_mul]; omega
theorem SlA.take (F : SlA k e Rel m oa cap xs) (h : Nat) : SlA k e Rel m oa cap (xs.take h) := by
  refine ⟨by have := F.le; simp; omega, F.capb, ?_⟩
  rcases F.row with h' | ⟨b, off, arr, T, fz, h1, h2, h3⟩
  · subst h'; left; simp
  · right
    refine ⟨b, off, arr, T, fz, h1, h2, fun i hi => ?_⟩
    simp at hi
    obtain ⟨cs, h4, h5, h6⟩ := h3 i (by omega)
    exact ⟨cs, h4, h5, by simpa using h6⟩
/-- Seen otherwise. -/
theorem SlA.mono {β : Type} {Rel' : Mem → List Value → β → Prop} {ys : List β} (F : SlA k e Rel m oa cap xs) (hl : ys.length = xs.length) (h : ∀ i (hi : i < xs.length) (hi' : i < ys.length) cs, Rel m cs xs[i] → Rel' m cs ys[i]) : SlA k e Rel' m oa cap ys :=
  ⟨by rw [hl]; exact F.le, F.capb, F.row.imp (fun h => by subst h; exact List.length_eq_zero_iff.1 (by simpa using hl)) fun ⟨b, off, arr, T, fz, h1, h2, h3⟩ =>
    ⟨b, off, arr, T, fz, h1, h2, fun i hi => let ⟨cs, h4, h5, h6⟩ := h3 i (hl ▸ hi); ⟨cs, h4, h5, h _ _ _ _ h6⟩⟩⟩
end

def eByte (x : UInt8) : List Value := [.int .u8 x.toNat]
def eStr (x : List UInt8) : List Value := [str x]
def eInt (x : Int) : List Value := [.int .i64 x]
def I64 (n : Int) : Prop := -9223372036854775808 ≤ n ∧ n ≤ 9223372036854775807
/-- Bytes. -/
abbrev Bys (m : Mem) (oa : Option Addr) (cap : Nat) (xs : List UInt8) : Prop := SlA 1 1 (Enc eByte) m oa cap xs
/-- Strings (each shorter than the model's bound of memory). -/
def RStr (m : Mem) (cs : List Value) (x : List UInt8) : Prop := cs = [str x] ∧ x.length ≤ 9223372036854775807
instance : Upr RStr := ⟨fun _ h => h⟩
abbrev Strs (m : Mem) (oa : Option Addr) (cap : Nat) (xs : List (List UInt8)) : Prop := SlA 1 16 RStr m oa cap xs
def RInt (m : Mem) (cs : List Value) (x : Int) : Prop := cs = [.int .i64 x] ∧ I64 x
instance : Upr RInt := ⟨fun _ h => h⟩
abbrev Ints (m : Mem) (oa : Option Addr) (cap : Nat) (xs : List Int) : Prop := SlA 1 8 RInt m oa cap xs
/-- Lists of bytes. -/
def RBys (m : Mem) (cs : List Value) (x : List UInt8) : Prop := ∃ oa cap, cs = [.slice oa x.length cap] ∧ Bys m oa cap x
instance : Upr RBys := ⟨fun h ⟨oa, cap, h1, h2⟩ => ⟨oa, cap, h1, h2.up h⟩⟩
abbrev BysL (m : Mem) (oa : Option Addr) (cap : Nat) (xs : List (List UInt8)) : Prop := SlA 1 24 RBys m oa cap xs

section
variable {α : Type} {k e : Nat} {Rel : Mem → List Value → α → Prop}
variable {P : Program} {ops : Array Oper} {Q : Exit → Act → World → Prop} {rest : List Oper} {n : Nat} {L : Slots} {a : Act} {w w0 : World} {X : List Nat} {R : Boxes} {m m0 : Mem}
variable {d T E : Nat} {dd : Option Tmp} {x y c : Operand} {typ : TypeId} {pos : String} {af : Array Edge} {gd : Option (Nat × Bool)} {z : Value} {s by_ : Nat} {g : Bool}
variable {oa : Option Addr} {cap : Nat} {xs : List α}

theorem r_len {ln : Nat} (hx : ev L x = some (.slice oa ln cap)) (hT : P.underlying T = some (.slice E)) :
    Runs P L { dst := dd, op := .call { callee := .builtin .len, args := #[x], argTypes := #[T] }, type := typ, pos := pos, after := af, guard := gd } w (.int .i64 (ln : Int)) :=
  ⟨by simpa [knowsOp, opnds, callL] using knows1 hx, by simp [execOp, resolve, invoke, builtin, Builtin.len_, run_underlying hT, evF_eq hx, goInt]⟩
theorem r_lenS {l : List UInt8} (hx : ev L x = some (str l)) (hT : P.underlying T = some .string) :
    Runs P L { dst := dd, op := .call { callee := .builtin .len, args := #[x], argTypes := #[T] }, type := typ, pos := pos, after := af, guard := gd } w (.int .i64 (l.length : Int)) :=
  ⟨by simpa [knowsOp, opnds, callL] using knows1 hx, by
    have e := evF_eq hx
    simp only [str] at e
    simp [execOp, resolve, invoke, builtin, Builtin.len_, run_underlying hT, e, goInt, str_size]⟩
theorem r_cap {ln : Nat} (hx : ev L x = some (.slice oa ln cap)) (hT : P.underlying T = some (.slice E)) :
    Runs P L { dst := dd, op := .call { callee := .builtin .cap, args := #[x], argTypes := #[T] }, type := typ, pos := pos, after := af, guard := gd } w (.int .i64 (cap : Int)) :=
  ⟨by simpa [knowsOp, opnds, callL] using knows1 hx, by simp [execOp, resolve, invoke, builtin, Builtin.cap_, run_underlying hT, evF_eq hx, goInt]⟩
theorem r_min {i j : Int} (hx : ev L x = some (.int .i64 i)) (hy : ev L y = some (.int .i64 j)) {ats : Array TypeId} :
    Runs P L { dst := dd, op := .call { callee := .builtin .min, args := #[x, y], argTypes := ats }, type := typ, pos := pos, after := af, guard := gd } w (.int .i64 (min i j)) :=
  ⟨by simpa [knowsOp, opnds, callL] using knows2 hx hy, by
    have : (if j < i then j else i) = min i j := by rw [Int.min_def]; split <;> split <;> omega
    simp [execOp, resolve, invoke, builtin, Builtin.min_, Builtin.min2, evF_eq hx, evF_eq hy, this]⟩
theorem r_max {i j : Int} (hx : ev L x = some (.int .i64 i)) (hy : ev L y = some (.int .i64 j)) {ats : Array TypeId} :
    Runs P L { dst := dd, op := .call { callee := .builtin .max, args := #[x, y], argTypes := ats }, type := typ, pos := pos, after := af, guard := gd } w (.int .i64 (max i j)) :=
  ⟨by simpa [knowsOp, opnds, callL] using knows2 hx hy, by
    have : (if j > i then j else i) = max i j := by rw [Int.max_def]; split <;> split <;> omega
    simp [execOp, resolve, invoke, builtin, Builtin.max_, Builtin.max2, evF_eq hx, evF_eq hy]
    rw [Int.max_def]; split <;> split <;> first | rfl | omega⟩
theorem run_equalIn_nil {ln : Nat} (hT : P.underlying T = some (.slice E)) (d : Nat) (w : World) : (Op.equalIn (d + 1) T (.slice oa ln cap) (.slice none 0 0)).run P w = .ok oa.isNone w := by
  cases oa <;> simp [Op.equalIn, run_underlying hT]
/-- `s == nil`. -/
theorem r_eqnil {ln : Nat} (hx : ev L x = some (.slice oa ln cap)) (hy : ev L y = some (.slice none 0 0)) (hT : P.underlying T = some (.slice E)) :
    Runs P L { dst := dd, op := .binOp .eql T x y T, type := typ, pos := pos, after := af, guard := gd } w (.bool oa.isNone) :=
  ⟨knows2 hx hy, by
    have hg : (eqGuard .eql T x y (.slice oa ln cap) (.slice none 0 0)).run P w = .ok () w := by unfold eqGuard; rfl
    have he := fun d => run_equalIn_nil (oa := oa) (ln := ln) (cap := cap) hT d w
    have hb : (binOp .eql T (.slice oa ln cap) (.slice none 0 0)).run P w = .ok (.bool oa.isNone) w := by
      simp only [binOp, Op.equal, Sem.run_bind, show Op.maxDepth = 9999 + 1 from rfl, he, Result.andThen_ok, Sem.run_pure]
    simp only [execOp, evF_eq hx, evF_eq hy, Sem.run_bind, hg, hb, Result.andThen_ok, Sem.run_pure]⟩
/-- The place of element `i`. -/
theorem r_indexAddr {b off ln i : Nat} (hx : ev L x = some (.slice (some ⟨b, off, none⟩) ln cap)) {j : Int} (hy : ev L y = some (.int .i64 j)) (hj : j = (i : Int)) (hi : i < ln) (hT : P.underlying T = some (.slice E)) (hE : tyOf P E = some (z, s, by_, g)) :
    Runs P L { dst := dd, op := .indexAddr T x y, type := typ, pos := pos, after := af, guard := gd } w (.pointer (some ⟨b, off + i * s, none⟩)) :=
  ⟨knows2 hx hy, by
    subst hj
    simp [execOp, Instr.indexAt, evF_eq hx, evF_eq hy, asIntOf, run_underlying hT, run_sizeOf hE, hi, add_none]⟩
/-- `x[l:h]`, `x[l:]`, `x[:h]`. -/
theorem r_slice {lo hi : Operand} {il ih : Int} {ln l h : Nat} (hx : ev L x = some (.slice oa ln cap)) (hlo : ev L lo = some (.int .i64 il)) (hhi : ev L hi = some (.int .i64 ih)) (el : il = (l : Int)) (eh : ih = (h : Int)) (h1 : l ≤ h) (h2 : h ≤ cap)
    (hT : P.underlying T = some (.slice E)) (hE : tyOf P E = some (z, s, by_, g)) :
    Runs P L { dst := dd, op := .slice T x (some lo) (some hi) none, type := typ, pos := pos, after := af, guard := gd } w (.slice (if cap = l then oa else oa.map (·.add (l * s))) (h - l) (cap - l)) :=
  ⟨by simp [knowsOp, opnds, optL, knows, hx, hlo, hhi], by
    subst el; subst eh
    simp [execOp, Instr.sliceAt, Instr.slice, Instr.sliceBounds, Instr.sliceBound, evF_eq hx, evF_eq hlo, evF_eq hhi, asIntOf, run_underlying hT, run_sizeOf hE, h1, h2]⟩
theorem r_sliceL {lo : Operand} {il : Int} {ln l : Nat} (hx : ev L x = some (.slice oa ln cap)) (hlo : ev L lo = some (.int .i64 il)) (el : il = (l : Int)) (h1 : l ≤ ln)
    (hT : P.underlying T = some (.slice E)) (hE : tyOf P E = some (z, s, by_, g)) :
    Runs P L { dst := dd, op := .slice T x (some lo) none none, type := typ, pos := pos, after := af, guard := gd } w (.slice (if cap = l then oa else oa.map (·.add (l * s))) (ln - l) (cap - l)) :=
  ⟨by simp [knowsOp, opnds, optL, knows, hx, hlo], by
    subst el
    simp [execOp, Instr.sliceAt, Instr.slice, Instr.sliceBounds, Instr.sliceBound, evF_eq hx, evF_eq hlo, asIntOf, run_underlying hT, run_sizeOf hE, h1]⟩
theorem r_sliceH {hi : Operand} {ih : Int} {ln h : Nat} (hx : ev L x = some (.slice oa ln cap)) (hhi : ev L hi = some (.int .i64 ih)) (eh : ih = (h : Int)) (h2 : h ≤ cap)
    (hT : P.underlying T = some (.slice E)) (hE : tyOf P E = some (z, s, by_, g)) :
    Runs P L { dst := dd, op := .slice T x none (some hi) none, type := typ, pos := pos, after := af, guard := gd } w (.slice oa h cap) :=
  ⟨by simp [knowsOp, opnds, optL, knows, hx, hhi], by
    subst eh
    cases oa <;> simp [execOp, Instr.sliceAt, Instr.slice, Instr.sliceBounds, Instr.sliceBound, evF_eq hx, evF_eq hhi, asIntOf, run_underlying hT, run_sizeOf hE, h2, Addr.add]⟩
end
end Gw
end PartBase6
section PartBase7
namespace Gw
open Go Go.RowKit

/-! ### A slice that the activation appends to -/
/-- The value `v` is a slice of `n` elements (`k` cells each) of the activation's own, that hold `cells`; its row, if it has one, is the box `Ro`. -/
inductive OwnV (k : Nat) : Boxes → Value → Nat → List Value → Prop
  | nil : OwnV k [] (.slice none 0 0) 0 []
  | row {b : Nat} {arr : Array Value} {E : TypeId} {n cap : Nat} {cells : List Value} (h1 : cells.length = n * k) (h2 : arr.size = cap * k) (h3 : n ≤ cap) (h4 : arr.toList.take (n * k) = cells) (h5 : cap ≤ 9223372036854775807) :
      OwnV k [(b, .cells arr E)] (.slice (some ⟨b, 0, none⟩) n cap) n cells

theorem zeroCells_size (z : Array Value) (n : Nat) : (Builtin.zeroCells z n).size = n * z.size := by simp [Builtin.zeroCells]
theorem toList_putL (cs : Array Value) (o : Nat) (vs : List Value) (h : o + vs.length ≤ cs.size) : (putL cs o vs).toList.take (o + vs.length) = cs.toList.take o ++ vs := by
  apply List.ext_getElem?
  intro j
  rw [List.getElem?_take]
  have hg := get_putL cs o vs h j
  rw [← Array.getElem?_toList, ← Array.getElem?_toList] at hg
  by_cases h1 : j < o
  · rw [if_pos (by omega), hg, if_pos h1, List.getElem?_append_left (by simp; omega), List.getElem?_take, if_pos h1]
  · by_cases h2 : j < o + vs.length
    · rw [if_pos h2, hg, if_neg h1, if_pos h2, List.getElem?_append_right (by simp; omega)]
      congr 1
      simp
      omega
    · rw [if_neg h2]
      symm
      rw [List.getElem?_eq_none]
      simp
      omega

def notInt : TypeDesc → Bool
  | .int _ => false
  | _ => true
section
variable {P : Program} {w w0 : World} {X : List Nat} {Ro R : Boxes} {m m0 : Mem} {T U E k e n n2 : Nat} {z v xv : Value} {g : Bool} {cells new : List Value}
theorem run_append_own {us : TypeDesc} (hT : P.underlying T = some (.slice E)) (hE : tyOf P E = some (z, k, e, g)) (hz : z.cells.size = k) (he : 1 ≤ e) (hU : P.underlying U = some us) (hus : notInt us = true)
    (S : St X w0 m0 (Ro ++ R) m w) (O : OwnV k Ro v n cells) (hlen : (Builtin.lenOf xv).run P w = .ok n2 w) (hnew : ∀ w', w'.heap = w.heap → (Builtin.firstCells k n2 xv).run P w' = .ok new.toArray w') (hl : new.length = n2 * k)
    (h1 : ∀ u ∈ new, u.oneCell' = true) (hb : (n + n2) * e ≤ 140737488355328) (typ : TypeId) :
    ∃ Ro' v' w', (Builtin.append_ #[T, U] typ #[v, xv]).run P w = .ok v' w' ∧ St X w0 m0 (Ro' ++ R) m w' ∧ OwnV k Ro' v' (n + n2) (cells ++ new) := by
  obtain ⟨i, u, hi, hu, hiz, hik, hie, hg⟩ := tyOf_parts hE
  have pre : ∀ (base : Option Addr) (cap : Nat), v = .slice base n cap → (Builtin.append_ #[T, U] typ #[v, xv]).run P w =
      (if n + n2 ≤ cap then (do
          let new ← Builtin.firstCells k n2 xv
          if let some a := base then storeCells (a.add (n * k)) new.toList
          pure (.slice base (n + n2) cap) : Sem Value)
        else do
          if ((n + n2 : Nat) : Int) > IntKind.i64.max ∧ (false = true ∨ (← typeInfo E).bytes = 0) then runtimePanic (.error "growslice: len out of range")
          if Builtin.nextslicecap (n + n2) cap * (← typeInfo E).bytes > 2 ^ 48 then (if false then runtimePanic (.error "growslice: len out of range") else do
            if !(← Builtin.mayShare k n n2 base xv) then mark .noRoom
            unsupported (.resourceLimit "append: a slice or a string whose bytes no memory bears"))
          let newCap ← choose (.appendCap (n + n2) cap E)
          askRoom (newCap * (← typeInfo E).bytes)
          let old ← Builtin.firstCells k n v
          let new ← Builtin.firstCells k n2 xv
          let rest := Builtin.zeroCells (← zeroValue E).cells (newCap - (n + n2))
          pure (.slice (some (← newRow E (old ++ new ++ rest))) (n + n2) newCap)).run P w := by
    intro base cap hv
    subst hv
    simp only [Builtin.append_]
    simp only [show (#[T, U] : Array TypeId)[0]? = some T from rfl, show (#[T, U] : Array TypeId)[1]? = some U from rfl, show (#[Value.slice base n cap, xv] : Array Value)[0]? = some (Value.slice base n cap) from rfl, show (#[Value.slice base n cap, xv] : Array Value)[1]? = some xv from rfl]
    cases us <;> first
      | (exfalso; revert hus; simp [notInt]; done)
      | (simp only [Sem.run_bind, run_underlying hT, run_underlying hU, Result.andThen_ok, run_sizeOf hE, Sem.run_pure, Bool.false_eq_true, if_false, hlen, Bool.not_false, if_true]; done)
      | (simp only [Sem.run_bind, run_underlying hT, run_underlying hU, Result.andThen_ok, run_sizeOf hE, Sem.run_pure, Bool.false_eq_true, if_false, hlen, Bool.not_false, if_true]; split <;> rfl)
  cases O with
  | nil =>
    rw [pre none 0 rfl]
    by_cases h0 : n2 = 0
    · subst h0
      have hn : new = [] := List.length_eq_zero_iff.1 (by simpa using hl)
      subst hn
      rw [if_pos (by omega)]
      refine ⟨[], .slice none 0 0, w, ?_, S, by simpa using OwnV.nil⟩
      simp [hnew w rfl]
    · rw [if_neg (by omega)]
      have hcap : (0 : Nat) < 0 + n2 := by omega
      have hfit := growslice_fits (need := 0 + n2) (old := 0) (bytes := e) hcap hb
      have hmul : n2 * 1 ≤ n2 * e := Nat.mul_le_mul_left _ he
      have h63 : ¬ (((0 + n2 : Nat) : Int) > IntKind.i64.max ∧ (false = true ∨ e = 0)) := by
        rintro ⟨_, h | h⟩
        · cases h
        · omega
      have h48 : ¬ (Builtin.nextslicecap (0 + n2) 0 * e > 2 ^ 48) := by omega
      have hm63 : 0 + n2 ≤ 140737488355328 := by
        have : (0 + n2) * 1 ≤ (0 + n2) * e := Nat.mul_le_mul_left _ he
        omega
      let nc := (Question.appendCap (0 + n2) 0 E).cut (w.tape w.drawn (.appendCap (0 + n2) 0 E))
      have hnc : 0 + n2 ≤ nc := by show 0 + n2 ≤ _; simp only [Question.cut, nc]; omega
      have hnc2 : nc ≤ 9223372036854775807 := by
        have h := Nat.mod_lt (w.tape w.drawn (.appendCap (0 + n2) 0 E)) (show 0 < 2 ^ 63 - (0 + n2) by omega)
        show (0 + n2) + _ % (2 ^ 63 - (0 + n2)) ≤ _
        omega
      have hr : (Sem.run P (do
          if ((0 + n2 : Nat) : Int) > IntKind.i64.max ∧ (false = true ∨ (← typeInfo E).bytes = 0) then runtimePanic (.error "growslice: len out of range")
          if Builtin.nextslicecap (0 + n2) 0 * (← typeInfo E).bytes > 2 ^ 48 then (if false then runtimePanic (.error "growslice: len out of range") else do
            if !(← Builtin.mayShare k 0 n2 none xv) then mark .noRoom
            unsupported (.resourceLimit "append: a slice or a string whose bytes no memory bears"))
          let newCap ← choose (.appendCap (0 + n2) 0 E)
          askRoom (newCap * (← typeInfo E).bytes)
          let old ← Builtin.firstCells k 0 (.slice none 0 0)
          let new ← Builtin.firstCells k n2 xv
          let rest := Builtin.zeroCells (← zeroValue E).cells (newCap - (0 + n2))
          pure (.slice (some (← newRow E (old ++ new ++ rest))) (0 + n2) newCap) : Sem Value) w) =
          .ok (.slice (some ⟨w.heap.size, 0, none⟩) (0 + n2) nc) (w.drew.alloc (.cells (#[] ++ new.toArray ++ Builtin.zeroCells z.cells (nc - (0 + n2))) E)) := by
        have hq : (choose (.appendCap (0 + n2) 0 E)).run P w = .ok nc w.drew := by
          simp only [run_choose, Question.forced, Bool.false_eq_true, if_false]; rfl
        have hti : ∀ w, (typeInfo E).run P w = .ok i w := fun w => by simp [typeInfo, hi]
        have hold : ∀ w, (Builtin.firstCells k 0 (.slice none 0 0)).run P w = .ok #[] w := fun w => by simp [Builtin.firstCells]
        simp only [Sem.run_bind, hti, Result.andThen_ok, hie, if_neg h63, if_neg h48, Sem.run_pure, hq, run_askRoom, hold, hnew w.drew rfl, run_zero hE, newRow, run_newObj]
        rfl
      rw [hr]
      refine ⟨[(w.heap.size, .cells (#[] ++ new.toArray ++ Builtin.zeroCells z.cells (nc - (0 + n2))) E)], _, _, rfl, (S.step (Bel.drew [] w)).box _, OwnV.row (by simpa using hl) ?_ hnc ?_ hnc2⟩
      · have h5 : n2 * k + (nc - (0 + n2)) * k = nc * k := by
          rw [← Nat.add_mul]; congr 1; omega
        simpa [zeroCells_size, hz, hl] using h5
      · simp [← hl]
  | @row b arr E' n cap cells c1 c2 c3 c4 c5 =>
    rw [pre (some ⟨b, 0, none⟩) cap rfl]
    have hbx := S.boxes 0 _ rfl
    by_cases h0 : n + n2 ≤ cap
    · rw [if_pos h0]
      have hmul : (n + n2) * k ≤ cap * k := Nat.mul_le_mul_right _ h0
      have hle : n * k + new.length ≤ arr.size := by rw [hl, c2, ← Nat.add_mul]; exact hmul
      obtain ⟨w', hr, hbel, hh⟩ := run_storeCells (P := P) new w (n * k) 0 arr hbx.2.1 (noFz0 _) (by simpa using hle) h1
      refine ⟨[(b, .cells (putL arr (n * k) new) E')], .slice (some ⟨b, 0, none⟩) (n + n2) cap, w', ?_, S.write 0 rfl hbel (by simpa using hh), OwnV.row ?_ ?_ h0 ?_ c5⟩
      · simp only [Sem.run_bind, hnew w rfl, Result.andThen_ok, add_none, Nat.zero_add, hr, Sem.run_pure]
      · simp [c1, hl, Nat.add_mul]
      · rw [size_putL, c2]
      · rw [Nat.add_mul, ← hl, toList_putL _ _ _ hle, c4]
    · rw [if_neg h0]
      have hcap : cap < n + n2 := by omega
      have hfit := growslice_fits (need := n + n2) (old := cap) (bytes := e) hcap hb
      have h63 : ¬ (((n + n2 : Nat) : Int) > IntKind.i64.max ∧ (false = true ∨ e = 0)) := by
        rintro ⟨_, h | h⟩
        · cases h
        · omega
      have h48 : ¬ (Builtin.nextslicecap (n + n2) cap * e > 2 ^ 48) := by omega
      have hm63 : n + n2 ≤ 140737488355328 := by
        have : (n + n2) * 1 ≤ (n + n2) * e := Nat.mul_le_mul_left _ he
        omega
      let nc := (Question.appendCap (n + n2) cap E).cut (w.tape w.drawn (.appendCap (n + n2) cap E))
      have hnc : n + n2 ≤ nc := by show n + n2 ≤ _; simp only [Question.cut, nc]; omega
      have hnc2 : nc ≤ 9223372036854775807 := by
        have h := Nat.mod_lt (w.tape w.drawn (.appendCap (n + n2) cap E)) (show 0 < 2 ^ 63 - (n + n2) by omega)
        show (n + n2) + _ % (2 ^ 63 - (n + n2)) ≤ _
        omega
      have hold : ∀ w', w'.heap = w.heap → (Builtin.firstCells k n (.slice (some ⟨b, 0, none⟩) n cap)).run P w' = .ok cells.toArray w' := fun w' hw' => by
        simp only [Builtin.firstCells]
        have := run_loadCells_list (P := P) (w := w') ⟨b, 0, none⟩ cells fun j v hv => by
          rw [add_none]
          simp only [World.cell?, hw', hbx.2.1]
          rw [← c4, List.getElem?_take] at hv
          split at hv
          · simpa using hv
          · cases hv
        rw [c1] at this
        exact this
      have hr : (Sem.run P (do
          if ((n + n2 : Nat) : Int) > IntKind.i64.max ∧ (false = true ∨ (← typeInfo E).bytes = 0) then runtimePanic (.error "growslice: len out of range")
          if Builtin.nextslicecap (n + n2) cap * (← typeInfo E).bytes > 2 ^ 48 then (if false then runtimePanic (.error "growslice: len out of range") else do
            if !(← Builtin.mayShare k n n2 (some ⟨b, 0, none⟩) xv) then mark .noRoom
            unsupported (.resourceLimit "append: a slice or a string whose bytes no memory bears"))
          let newCap ← choose (.appendCap (n + n2) cap E)
          askRoom (newCap * (← typeInfo E).bytes)
          let old ← Builtin.firstCells k n (.slice (some ⟨b, 0, none⟩) n cap)
          let new ← Builtin.firstCells k n2 xv
          let rest := Builtin.zeroCells (← zeroValue E).cells (newCap - (n + n2))
          pure (.slice (some (← newRow E (old ++ new ++ rest))) (n + n2) newCap) : Sem Value) w) =
          .ok (.slice (some ⟨w.heap.size, 0, none⟩) (n + n2) nc) (w.drew.alloc (.cells (cells.toArray ++ new.toArray ++ Builtin.zeroCells z.cells (nc - (n + n2))) E)) := by
        have hq : (choose (.appendCap (n + n2) cap E)).run P w = .ok nc w.drew := by
          simp only [run_choose, Question.forced, Bool.false_eq_true, if_false]; rfl
        have hti : ∀ w, (typeInfo E).run P w = .ok i w := fun w => by simp [typeInfo, hi]
        simp only [Sem.run_bind, hti, Result.andThen_ok, hie, if_neg h63, if_neg h48, Sem.run_pure, hq, run_askRoom, hold w.drew rfl, hnew w.drew rfl, run_zero hE, newRow, run_newObj]
        rfl
      rw [hr]
      refine ⟨[(w.heap.size, .cells (cells.toArray ++ new.toArray ++ Builtin.zeroCells z.cells (nc - (n + n2))) E)], _, _, rfl, ?_, OwnV.row (by simp [c1, hl, Nat.add_mul]) ?_ hnc ?_ hnc2⟩
      · have := ((S.step (Bel.drew [] w)).box (.cells (cells.toArray ++ new.toArray ++ Builtin.zeroCells z.cells (nc - (n + n2))) E)).drop 1
        simpa using this
      · simp only [Array.size_append, zeroCells_size, hz, List.size_toArray, hl, c1]
        rw [← Nat.add_mul, ← Nat.add_mul]
        congr 1; omega
      · simp only [Array.toList_append]
        rw [List.take_append_of_le_length (by simp [c1, hl, Nat.add_mul])]
        rw [List.take_of_length_le (by simp [c1, hl, Nat.add_mul])]
end
end Gw
end PartBase7
section PartBase8
namespace Gw
open Go Go.RowKit

section
variable {α : Type} {k e : Nat} {Rel : Mem → List Value → α → Prop}
variable {P : Program} {ops : Array Oper} {Q : Exit → Act → World → Prop} {rest : List Oper} {n : Nat} {L : Slots} {a : Act} {w w0 : World} {X : List Nat} {R Ro : Boxes} {m m0 : Mem}
variable {d d2 T U E n1 n2 : Nat} {dd : Option Tmp} {x y c : Operand} {typ typ2 : TypeId} {pos pos2 : String} {af af2 : Array Edge} {gd : Option (Nat × Bool)} {z v xv : Value} {s by_ : Nat} {g : Bool}
variable {oa : Option Addr} {cap : Nat} {xs : List α} {cells new : List Value} {us : TypeDesc}

/-! ### What is appended -/
/-- The cells of a slice that stays. -/
theorem SlA.src (F : SlA k e Rel m oa cap xs) (hm : Sub m w) : ∃ new : List Value, new.length = xs.length * k ∧ (∀ w', w'.heap = w.heap → (Builtin.firstCells k xs.length (.slice oa xs.length cap)).run P w' = .ok new.toArray w') ∧
    ∀ i (h : i < xs.length), Rel m ((new.drop (i * k)).take k) xs[i] := by
  rcases F.row with h | ⟨b, off, arr, T, fz, h1, h2, h3⟩
  · subst h
    refine ⟨[], by simp, fun w' _ => ?_, fun i h => by simp at h⟩
    cases oa with
    | none => simp [Builtin.firstCells]
    | some p => simp [Builtin.firstCells, loadCells, loadCellsFrom]
  · subst h1
    have hcell : ∀ i, i < xs.length * k → ∃ v, arr[off + i]? = some v := fun i hi => by
      have hk : 0 < k := Nat.pos_of_ne_zero fun e => by subst e; simp at hi
      have hq : i / k < xs.length := Nat.div_lt_of_lt_mul (by rw [Nat.mul_comm]; exact hi)
      obtain ⟨cs, h4, h5, h6⟩ := h3 (i / k) hq
      have hr : i % k < k := Nat.mod_lt _ hk
      have := h5 (i % k) hr
      have e1 : off + i / k * k + i % k = off + i := by
        have := Nat.div_add_mod i k
        rw [Nat.mul_comm] at this
        omega
      rw [e1] at this
      exact ⟨cs[i % k]'(by omega), by rw [this, List.getElem?_eq_getElem (by omega)]⟩
    have hlen : ((arr.toList.drop off).take (xs.length * k)).length = xs.length * k := by
      rcases Nat.eq_zero_or_pos (xs.length * k) with h0 | h0
      · rw [h0]; rfl
      · obtain ⟨v, hv⟩ := hcell (xs.length * k - 1) (by omega)
        have := (Array.getElem?_eq_some_iff.1 hv).1
        simp only [List.length_take, List.length_drop, Array.length_toList]
        omega
    have hget : ∀ j, j < xs.length * k → ((arr.toList.drop off).take (xs.length * k))[j]? = arr[off + j]? := fun j hj => by
      rw [List.getElem?_take, if_pos hj, List.getElem?_drop, Array.getElem?_toList]
    refine ⟨(arr.toList.drop off).take (xs.length * k), hlen, fun w' hw' => ?_, fun i hi => ?_⟩
    · have := run_loadCells_list (P := P) (w := w') ⟨b, off, Option.none⟩ ((arr.toList.drop off).take (xs.length * k)) fun j v hv => by
        have hj : j < xs.length * k := by
          rcases Nat.lt_or_ge j (xs.length * k) with h | h
          · exact h
          · rw [List.getElem?_eq_none (by rw [hlen]; exact h)] at hv; cases hv
        rw [add_none]
        simp only [World.cell?, hw', hm _ _ h2]
        rw [hget j hj] at hv
        simpa using hv
      rw [hlen] at this
      simpa only [Builtin.firstCells] using this
    · obtain ⟨cs, h4, h5, h6⟩ := h3 i hi
      have : (((arr.toList.drop off).take (xs.length * k)).drop (i * k)).take k = cs := by
        apply List.ext_getElem?
        intro j
        rw [List.getElem?_take]
        by_cases hj : j < k
        · rw [if_pos hj, List.getElem?_drop, hget _ (by
            have : (i + 1) * k ≤ xs.length * k := Nat.mul_le_mul_right _ hi
            rw [Nat.add_mul] at this; omega), ← h5 j hj]
          congr 1; omega
        · rw [if_neg hj, List.getElem?_eq_none (by omega)]
      rw [this]; exact h6
/-- The cells of a box. -/
theorem St.src (S : St X w0 m0 R m w) (i : Nat) {b cap' : Nat} {cs : List Value} {fz : Nat × Nat} {E' : TypeId} {n2 : Nat} (h : R[i]? = some (b, .cells cs.toArray E' fz)) (hl : cs.length = n2 * k) :
    ∀ w', w'.heap = w.heap → (Builtin.firstCells k n2 (.slice (some ⟨b, 0, none⟩) n2 cap')).run P w' = .ok cs.toArray w' := fun w' hw' => by
  have hb := (S.boxes i _ h).2.1
  have := run_loadCells_list (P := P) (w := w') ⟨b, 0, none⟩ cs fun j v hv => by
    rw [add_none]
    simp only [World.cell?, hw', hb]
    simpa using hv
  rw [hl] at this
  simpa only [Builtin.firstCells] using this
theorem src_str (l : List UInt8) (w' : World) : (Builtin.firstCells 1 l.length (str l)).run P w' = .ok (l.map fun b => Value.int .u8 b.toNat).toArray w' := by
  simp [Builtin.firstCells, str, ByteArray.extract, ByteArray.copySlice]

/-! ### Steps -/
theorem St.front (S : St X w0 m0 R m w) (i : Nat) {p : Nat × Obj} (h : R[i]? = some p) : St X w0 m0 (p :: R.eraseIdx i) m w := by
  have hi : i < R.length := by
    rcases Nat.lt_or_ge i R.length with h' | h'
    · exact h'
    · simp [List.getElem?_eq_none h'] at h
  refine S.reindex (fun j => if j = 0 then i else if j ≤ i then j - 1 else j) (fun j k hjk => ?_) fun j q hq => ?_
  · have h' : (if j = 0 then i else if j ≤ i then j - 1 else j) = (if k = 0 then i else if k ≤ i then k - 1 else k) := hjk
    split at h' <;> split at h' <;> (try split at h') <;> (try split at h') <;> omega
  · show R[if j = 0 then i else if j ≤ i then j - 1 else j]? = some q
    cases j with
    | zero => simp at hq; subst hq; simpa using h
    | succ j =>
      simp only [List.getElem?_cons_succ, List.getElem?_eraseIdx] at hq
      rw [if_neg (by omega)]
      by_cases hj : j < i
      · rw [if_pos hj] at hq; rw [if_pos (by omega)]; simpa using hq
      · rw [if_neg hj] at hq; rw [if_neg (by omega)]; exact hq
theorem St.swap {R1 R2 : Boxes} (S : St X w0 m0 (R1 ++ (R2 ++ R)) m w) : St X w0 m0 (R2 ++ (R1 ++ R)) m w := by
  refine S.reindex (fun j => if j < R2.length then j + R1.length else if j < R2.length + R1.length then j - R2.length else j) (fun j k hjk => ?_) fun j q hq => ?_
  · have h' : (if j < R2.length then j + R1.length else if j < R2.length + R1.length then j - R2.length else j) = (if k < R2.length then k + R1.length else if k < R2.length + R1.length then k - R2.length else k) := hjk
    split at h' <;> split at h' <;> (try split at h') <;> (try split at h') <;> omega
  · show (R1 ++ (R2 ++ R))[if j < R2.length then j + R1.length else if j < R2.length + R1.length then j - R2.length else j]? = some q
    by_cases h1 : j < R2.length
    · rw [List.getElem?_append_left h1] at hq
      rw [if_pos h1, List.getElem?_append_right (by omega), Nat.add_sub_cancel, List.getElem?_append_left h1]; exact hq
    · rw [List.getElem?_append_right (by omega)] at hq
      rw [if_neg h1]
      by_cases h2 : j < R2.length + R1.length
      · rw [List.getElem?_append_left (by omega)] at hq
        rw [if_pos h2, List.getElem?_append_left (by omega)]; exact hq
      · rw [List.getElem?_append_right (by omega)] at hq
        rw [if_neg h2, List.getElem?_append_right (by omega), List.getElem?_append_right (by omega), ← hq]
        congr 1; omega
/-- `buildSlice`: a row written out. -/
theorem s_buildSlice {ps : Array (Nat × Operand)} {cs : List Value} (S : St X w0 m0 R m w) (hk : knowsOp L (.buildSlice T n1 ps) = true)
    (hr : ∀ w, (Instr.buildSlice T n1 (ps.map fun (i, x) => (i, evF L x))).run P w = .ok (.slice (some ⟨w.heap.size, 0, none⟩) n1 n1) (w.alloc (.cells cs.toArray E))) (hn : Nat.blt d n = true)
    (h : ∀ w' b, w0.heap.size ≤ b → St X w0 m0 ((b, .cells cs.toArray E) :: R) m w' → WL P ops Q rest n ((d, .slice (some ⟨b, 0, none⟩) n1 n1) :: L) w') :
    WL P ops Q ({ dst := some d, op := .buildSlice T n1 ps, type := typ, pos := pos, after := af, guard := none } :: rest) n L w :=
  s_op (.slice (some ⟨w.heap.size, 0, none⟩) n1 n1) rfl rfl hn hk (w' := w.alloc (.cells cs.toArray E)) (by simp only [execOp, hr, Sem.run_bind, Result.andThen_ok, Sem.run_pure]) (h _ _ S.bel.size (S.box _))
/-- `append(x, y...)`, x the activation's own. -/
theorem s_append (hT : P.underlying T = some (.slice E)) (hE : tyOf P E = some (z, k, e, g)) (hz : z.cells.size = k) (he : 1 ≤ e) (hU : P.underlying U = some us) (hus : notInt us = true)
    (S : St X w0 m0 (Ro ++ R) m w) (O : OwnV k Ro v n1 cells) (hx : ev L x = some v) (hy : ev L y = some xv) (hlen : (Builtin.lenOf xv).run P w = .ok n2 w) (hnew : ∀ w', w'.heap = w.heap → (Builtin.firstCells k n2 xv).run P w' = .ok new.toArray w') (hl : new.length = n2 * k)
    (h1 : ∀ u ∈ new, u.oneCell' = true) (hb : (n1 + n2) * e ≤ 140737488355328) (hn : Nat.blt d n = true)
    (h : ∀ Ro' v' w', St X w0 m0 (Ro' ++ R) m w' → OwnV k Ro' v' (n1 + n2) (cells ++ new) → WL P ops Q rest n ((d, v') :: L) w') :
    WL P ops Q ({ dst := some d, op := .call { callee := .builtin .append, args := #[x, y], argTypes := #[T, U] }, type := typ, pos := pos, after := af, guard := none } :: rest) n L w := by
  obtain ⟨Ro', v', w', hr, S', O'⟩ := run_append_own (P := P) hT hE hz he hU hus S O hlen hnew hl h1 hb typ
  exact s_op v' rfl rfl hn (by simpa [knowsOp, opnds, callL] using knows2 hx hy) (w' := w') (by
    simp only [execOp, resolve, invoke, builtin, Sem.run_bind, Sem.run_pure, Result.andThen_ok]
    rw [show (#[x, y] : Array Operand).map (evF L) = #[v, xv] by simp [evF_eq hx, evF_eq hy]]
    simp only [hr, Result.andThen_ok]) (h Ro' v' w' S' O')
/-- `append(x, y)` of one element, the element's row written out just ahead. -/
theorem s_append1 {ps : Array (Nat × Operand)} {cs : List Value} (hT : P.underlying T = some (.slice E)) (hE : tyOf P E = some (z, k, e, g)) (hz : z.cells.size = k) (he : 1 ≤ e)
    (S : St X w0 m0 (Ro ++ R) m w) (O : OwnV k Ro v n1 cells) (hx : ev L x = some v) (hxd : ev ((d, Value.slice (some ⟨w.heap.size, 0, none⟩) n2 n2) :: L) x = some v) (hk : knowsOp L (.buildSlice T n2 ps) = true)
    (hr : ∀ w, (Instr.buildSlice T n2 (ps.map fun (i, x) => (i, evF L x))).run P w = .ok (.slice (some ⟨w.heap.size, 0, none⟩) n2 n2) (w.alloc (.cells cs.toArray E))) (hl : cs.length = n2 * k)
    (h1 : ∀ u ∈ cs, u.oneCell' = true) (hb : (n1 + n2) * e ≤ 140737488355328) (hn : Nat.blt d n = true) (hn2 : Nat.blt d2 n = true)
    (h : ∀ Ro' v' w' u, St X w0 m0 (Ro' ++ R) m w' → OwnV k Ro' v' (n1 + n2) (cells ++ cs) → WL P ops Q rest n ((d2, v') :: (d, u) :: L) w') :
    WL P ops Q ({ dst := some d, op := .buildSlice T n2 ps, type := typ, pos := pos, after := af, guard := none } :: { dst := some d2, op := .call { callee := .builtin .append, args := #[x, .tmp d], argTypes := #[T, T] }, type := typ2, pos := pos2, after := af2, guard := none } :: rest) n L w := by
  refine s_op (.slice (some ⟨w.heap.size, 0, none⟩) n2 n2) rfl rfl hn hk (w' := w.alloc (.cells cs.toArray E)) (by simp only [execOp, hr, Sem.run_bind, Result.andThen_ok, Sem.run_pure]) ?_
  have S' := S.box (.cells cs.toArray E)
  have hs := S'.src (k := k) (P := P) (cap' := n2) 0 rfl hl
  have hd : ev ((d, Value.slice (some ⟨w.heap.size, 0, none⟩) n2 n2) :: L) (.tmp d) = some (.slice (some ⟨w.heap.size, 0, none⟩) n2 n2) := by simp [ev, lk]
  refine s_append hT hE hz he hT rfl (Ro := Ro) (R := R) (by simpa using S'.drop 0) O hxd hd (by simp [Builtin.lenOf]) hs hl h1 hb hn2 ?_
  intro Ro' v' w' S2 O2
  exact h Ro' v' w' _ S2 O2
theorem foldl_push (l : List UInt8) : ∀ r : ByteArray, (l.map fun x => (x.toNat : Int)).foldl (fun r n => r.push (UInt8.ofNat n.toNat)) r = ⟨r.data ++ l.toArray⟩ := by
  induction l with
  | nil => intro r; simp
  | cons c l ih => intro r; rw [List.map_cons, List.foldl_cons, ih]; simp [ByteArray.push]
theorem run_b2s {l : List UInt8} (F : Bys m oa cap l) (hm : Sub m w) : (Conv.bytesToString (.slice oa l.length cap)).run P w = .ok (str l) w := by
  obtain ⟨new, hl, hnew, hrel⟩ := F.src (P := P) hm
  have h2 : new = (l.map fun x => (x.toNat : Int)).map (Value.int .u8) := by
    apply List.ext_getElem
    · simp [hl]
    · intro i h1 h2
      have hi : i < l.length := by simpa [hl] using h1
      have := hrel i hi
      simp only [Enc, eByte, Nat.mul_one] at this
      have h3 := congrArg (fun q : List Value => q[0]?) this
      simp [List.getElem?_drop] at h3
      rw [List.getElem?_eq_getElem h1] at h3
      simpa using Option.some.inj h3
  cases oa with
  | none =>
    have : l = [] := by
      rcases F.row with h | ⟨b, off, arr, T, fz, h1, _⟩
      · exact h
      · cases h1
    subst this
    rfl
  | some p =>
    have hc := hnew w rfl
    simp only [Builtin.firstCells, Nat.mul_one] at hc
    rw [h2] at hc
    rw [run_bytesToString w p l.length cap _ hc, foldl_push]
    simp [str]
/-- Bytes as a string. -/
theorem r_b2s {l : List UInt8} {U T' : Nat} (hx : ev L x = some (.slice oa l.length cap)) (F : Bys m oa cap l) (hm : Sub m w) (hT : P.underlying T' = some (.slice E)) (hE : P.underlying E = some (.int .u8)) (hU : P.underlying U = some .string) :
    Runs P L { dst := dd, op := .convert T' U x, type := typ, pos := pos, after := af, guard := gd } w (str l) := by
  refine ⟨knows1 hx, ?_⟩
  have hb := run_b2s (P := P) F hm
  simp only [execOp, evF_eq hx, convert, Sem.run_bind, run_underlying hT, run_underlying hU, run_underlying hE, Result.andThen_ok, hb, Sem.run_pure]
/-- A string's bytes, in a row of their own. -/
theorem s_s2b {l : List UInt8} {U T' : Nat} (S : St X w0 m0 R m w) (hx : ev L x = some (str l)) (hl : l.length ≤ 140737488355328) (hT : P.underlying T' = some .string) (hU : P.underlying U = some (.slice E)) (hE : P.underlying E = some (.int .u8)) (hn : Nat.blt d n = true)
    (h : ∀ w' m' oa cap, m.Le m' → St X w0 m0 R m' w' → Bys m' oa cap l → WL P ops Q rest n ((d, .slice oa l.length cap) :: L) w') :
    WL P ops Q ({ dst := some d, op := .convert T' U x, type := typ, pos := pos, after := af, guard := none } :: rest) n L w := by
  let nc := (Question.appendCap l.length 0 E).cut (w.tape w.drawn (.appendCap l.length 0 E))
  have hnc : l.length ≤ nc := by show l.length ≤ _; simp only [Question.cut, nc]; omega
  have hnc2 : nc ≤ 9223372036854775807 := by
    have h := Nat.mod_lt (w.tape w.drawn (.appendCap l.length 0 E)) (show 0 < 2 ^ 63 - l.length by omega)
    show l.length + _ % (2 ^ 63 - l.length) ≤ _
    omega
  let arr : Array Value := (l.toArray.map fun b => Value.int .u8 b.toNat) ++ Array.replicate (nc - l.length) (.int .u8 0)
  let w1 := w.drew.alloc (.cells arr E)
  let w2 := w1.freeze ⟨w.heap.size, arr.size, none⟩ 1
  have hq : (choose (.appendCap l.length 0 E)).run P w = .ok nc w.drew := by
    simp only [run_choose, Question.forced, Bool.false_eq_true, if_false]; rfl
  have hsh : (shape w.heap.size).run P w1 = .ok (some (E, arr.size)) w1 := by
    simp only [run_shape, World.shape?]
    rw [show w1.heap[w.heap.size]? = some (.cells arr E) from heap_alloc_new w.drew _]
  have hr : (convert T' U (str l)).run P w = .ok (.slice (some ⟨w.heap.size, 0, none⟩) l.length nc) w2 := by
    simp only [str, convert, Sem.run_bind, run_underlying hT, run_underlying hU, run_underlying hE, Result.andThen_ok, Conv.stringToBytes, str_size, hq, newRow, run_newObj, Sem.run_pure, markStringish]
    simp only [World.alloc_eq]
    have e1 : w.drew.heap.size = w.heap.size := rfl
    rw [e1]
    rw [show (w.drew.alloc (.cells ((l.toArray.map fun b => Value.int .u8 b.toNat) ++ Array.replicate (nc - l.length) (.int .u8 0)) E)) = w1 from rfl, hsh]
    rfl
  have hh : ∀ k, w2.heap[k]? = if k = w.heap.size then some (.cells arr E (arr.size, arr.size + 1)) else w1.heap[k]? := fun k => by
    simp only [w2, World.freeze, Nat.one_ne_zero, if_false, Array.getElem?_modify]
    by_cases e : w.heap.size = k
    · subst e
      simp only [if_true]
      rw [show w1.heap[w.heap.size]? = some (.cells arr E) from heap_alloc_new w.drew _]
      simp
    · rw [if_neg e, if_neg (fun h => e h.symm)]
  have hsz : w2.heap.size = w1.heap.size := by simp [w2, World.freeze]
  have hbel : Bel [] w w2 := by
    have h1 : Bel [] w w1 := (Bel.drew [] w).trans (Bel.alloc [] w.drew _)
    refine ⟨rfl, rfl, rfl, by rw [hsz]; exact h1.size, fun k hk hx => ?_⟩
    rw [hh k, if_neg (by omega)]
    exact h1.block k hk hx
  have S' := S.grow hbel
  refine s_op (.slice (some ⟨w.heap.size, 0, none⟩) l.length nc) rfl rfl hn (knows1 hx) (w' := w2) (by simp only [execOp, evF_eq hx, Sem.run_bind, hr, Result.andThen_ok, Sem.run_pure]) (h w2 _ _ _ (S.mem.le_grow w2) S' ⟨hnc, hnc2, ?_⟩)
  right
  refine ⟨w.heap.size, 0, arr, E, (arr.size, arr.size + 1), rfl, ?_, fun i hi => ⟨eByte l[i], rfl, fun j hj => ?_, rfl⟩⟩
  · unfold grow
    rw [if_neg (by omega), hh, if_pos rfl]
  · have : j = 0 := by omega
    subst this
    rw [show 0 + i * 1 + 0 = i by omega]
    show ((l.toArray.map fun b => Value.int .u8 b.toNat) ++ Array.replicate (nc - l.length) (.int .u8 0))[i]? = some (.int .u8 (l[i].toNat : Int))
    rw [Array.getElem?_append_left (by simpa using hi)]
    simp [hi]

/-! ### A region that draws its order, and only looks -/
/-- What a class of worlds says. -/
def WQ (P : Program) (ops : Array Oper) (C : World → Prop) (F : Act → Prop) (rest : List Oper) (n : Nat) (L : Slots) : Prop := ∀ a, Has n L a → wpQuiet P ops C F rest a
theorem q_end {C : World → Prop} {F : Act → Prop} (h : ∀ a, Has n L a → F a) : WQ P ops C F [] n L := h
/-- An operation that leaves one value in every world of the class. -/
theorem q_v {C : World → Prop} {F : Act → Prop} {o : Oper} {v : Value} (h : ∀ w, C w → Runs P L o w v) (hk : knowsOp L o.op = true) (hg : o.guard = none) (hd : o.dst = some d) (hn : Nat.blt d n = true)
    (k : WQ P ops C F rest n ((d, v) :: L)) : WQ P ops C F (o :: rest) n L := fun a H => by
  unfold wpQuiet
  rw [if_pos (by simp [Region.wanted, hg])]
  refine ⟨v, fun w hw => ?_, ?_⟩
  · unfold Oper.quietAt
    rw [exec_has H hk, (h w hw).run]
    exact ⟨rfl, rfl⟩
  · rw [hd]; exact k _ (H.put hn v)
/-- A call whose result is one value in every world of the class. -/
theorem q_call {C : World → Prop} {F : Act → Prop} {f : FuncId} {args : Array Operand} {ats : Array TypeId} {vs : Array Value} {v : Value} (hk : knows L args.toList = true) (hv : args.map (evF L) = vs) (hf : callable P f = true)
    (hc : ∀ w, C w → Calls P f vs w fun e w' => e = .returned v ∧ C w') (hn : Nat.blt d n = true) (k : WQ P ops C F rest n ((d, v) :: L)) :
    WQ P ops C F ({ dst := some d, op := .call { callee := .value (.func f), args := args, argTypes := ats }, type := typ, pos := pos, after := af, guard := none } :: rest) n L := fun a H => by
  have hk' : knowsOp L (.call { callee := .value (.func f), args := args, argTypes := ats }) = true := by simpa [knowsOp, opnds, callL, knows, ev] using hk
  unfold wpQuiet
  rw [if_pos (by simp [Region.wanted])]
  refine ⟨v, fun w hw => ?_, k _ (H.put hn v)⟩
  unfold Oper.quietAt
  rw [exec_has H hk']
  have e : evF L (.func f) = .func (.func f) #[] #[] := rfl
  simp only [execOp, resolve, e, Deferred.ofValue, Sem.run_bind, Sem.run_pure, Result.andThen_ok, invoke]
  rw [Array.append_empty, Array.empty_append, run_callFunc hf, hv]
  exact ⟨rfl, hc w hw⟩
theorem q_on {C : World → Prop} {F : Act → Prop} {o : Oper} {i t : Nat} {b : Bool} (hg : o.guard = some (i, b)) (hi : (ops[i]?).bind (·.dst) = some t) (ht : lk L t = some (.bool b))
    (k : WQ P ops C F ({ o with guard := none } :: rest) n L) : WQ P ops C F (o :: rest) n L := fun a H => by
  replace k := k a H
  unfold wpQuiet at k ⊢
  have hw : Region.wanted o (yielded ops a.tmps) = true := by
    unfold Region.wanted
    rw [hg]
    simp only
    unfold yielded
    rw [hi]
    have h2 := H.get t _ ht
    simp only [Option.bind_some]
    rw [Array.getD_eq_getD_getElem?] at h2
    cases h3 : a.tmps[t]? with
    | none => rw [h3] at h2; simp [undef] at h2
    | some u => rw [h3] at h2; simp at h2; subst h2; simp
  rw [if_pos hw]
  rw [if_pos (show Region.wanted { o with guard := none } (yielded ops a.tmps) = true from rfl)] at k
  exact k
theorem q_off {C : World → Prop} {F : Act → Prop} {o : Oper} {i t : Nat} {b c : Bool} (hg : o.guard = some (i, b)) (hd : o.dst = some d) (hn : Nat.blt d n = true) (hi : (ops[i]?).bind (·.dst) = some t)
    (ht : lk L t = some (.bool c)) (hb : c = !b) (k : WQ P ops C F rest n ((d, undef) :: L)) : WQ P ops C F (o :: rest) n L := fun a H => by
  unfold wpQuiet
  have hw : Region.wanted o (yielded ops a.tmps) = false := by
    unfold Region.wanted
    rw [hg]
    simp only
    unfold yielded
    rw [hi]
    have h2 := H.get t _ ht
    simp only [Option.bind_some]
    rw [Array.getD_eq_getD_getElem?] at h2
    subst hb
    cases h3 : a.tmps[t]? with
    | none => simp
    | some u => rw [h3] at h2; simp at h2; subst h2; cases b <;> simp
  rw [if_neg (by rw [hw]; simp), hd]
  exact k _ (H.put hn undef)
/-- The region. -/
theorem c_quiet {y' : Code} {id : Nat} {l : List Oper} (S : St X w0 m0 R m w) (hm : P.follows .mixedOrders = true) (hB : Region.lexB .any l.toArray = true)
    (h : WQ P l.toArray (fun w' => St X w0 m0 R m w' ∧ Bel [] w w') (fun a => ∀ w', (St X w0 m0 R m w' ∧ Bel [] w w') → y'.wp P Q a w') l n L) : WC P (Code.seq (Code.region id l.toArray true) y') Q n L w := fun a H =>
  wp_seq (wp_region_quiet (C := fun w' => St X w0 m0 R m w' ∧ Bel [] w w') hm hB ⟨S.step (Bel.drew [] w), Bel.drew [] w⟩ (h a H))
theorem q_done {y' : Code} (h : ∀ w', St X w0 m0 R m w' → Bel [] w w' → WC P y' Q n L w') : WQ P ops (fun w' => St X w0 m0 R m w' ∧ Bel [] w w') (fun a => ∀ w', (St X w0 m0 R m w' ∧ Bel [] w w') → y'.wp P Q a w') [] n L :=
  fun a H w' hw => h w' hw.1 hw.2 a H
end
end Gw
end PartBase8
section PartV1
/-! What a Go program's values are: trees for what stays, numbered rows for what an activation made itself. -/
namespace Gv
open Go Go.RowKit Gw

abbrev MAXL : Nat := 9223372036854775807
inductive V : Type 1 where
  | int (k : IntKind) (n : Int)
  | bool (b : Bool)
  | lit (b : Bool)
  | str (s : List UInt8)
  | sl {α : Type} (enc : α → V) (l : List α)
  | nil
  | own (r : Nat)
  | ptr (r i o : Nat)
  | elt (x : V) (o : Nat)
  | agg (cs : List V)
  | tup (vs : List V)
  | fn (f : FuncId) (caps : List V)
  | map (r : Nat)
  | raw (v : Value)
def V.cells : V → List V
  | .agg cs => cs
  | v => [v]
/-- Where row r lies: its block, how long, how much room, cells an element. -/
abbrev Loc := Nat → Option (Option Nat × Nat × Nat × Nat)
def noLoc : Loc := fun _ => none
def Loc.Le (q q' : Loc) : Prop := ∀ r x, q r = some x → q' r = some x
theorem Loc.Le.refl (q : Loc) : q.Le q := fun _ _ h => h
theorem Loc.Le.trans {a b c : Loc} (h : a.Le b) (k : b.Le c) : a.Le c := fun r x e => k r x (h r x e)
theorem noLoc_le (q : Loc) : noLoc.Le q := fun r x h => by cases h
abbrev row0 (ob : Option Nat) : Option Addr := ob.map fun b => ⟨b, 0, none⟩

inductive VR (m : Mem) : Loc → V → Value → Prop
  | int {q : Loc} {k : IntKind} {n : Int} : VR m q (.int k n) (.int k n)
  | bool {q : Loc} {b : Bool} : VR m q (.bool b) (.bool b)
  | lit {q : Loc} {b : Bool} : VR m q (.lit b) (.bool b)
  | str {q : Loc} {s : List UInt8} (h : s.length ≤ MAXL) : VR m q (.str s) (Gw.str s)
  | sl0 {q : Loc} {α : Type} {enc : α → V} {oa : Option Addr} {cap : Nat} (h : cap ≤ MAXL) (h0 : oa = none → cap = 0) : VR m q (.sl enc []) (.slice oa 0 cap)
  | sl {q : Loc} {α : Type} {enc : α → V} {l : List α} {b off : Nat} {arr : Array Value} {T : TypeId} {fz : Nat × Nat} {cap k : Nat} (us : Nat → Nat → Value)
      (h1 : l.length ≤ cap) (h2 : cap ≤ MAXL) (h3 : m b = some (.cells arr T fz))
      (h4 : ∀ i (h : i < l.length), (enc l[i]).cells.length = k)
      (h5 : ∀ i (h : i < l.length) (j : Nat) v, (enc l[i]).cells[j]? = some v → arr[off + i * k + j]? = some (us i j) ∧ (us i j).oneCell' = true)
      (h6 : ∀ i (h : i < l.length) (j : Nat) v, (enc l[i]).cells[j]? = some v → VR m noLoc v (us i j)) : VR m q (.sl enc l) (.slice (some ⟨b, off, none⟩) l.length cap)
  | nil {q : Loc} : VR m q .nil (.slice none 0 0)
  | own {q : Loc} {r len cap k : Nat} {ob : Option Nat} (h : q r = some (ob, len, cap, k)) : VR m q (.own r) (.slice (row0 ob) len cap)
  | ptr {q : Loc} {r i o b len cap k : Nat} (h : q r = some (some b, len, cap, k)) : VR m q (.ptr r i o) (.pointer (some ⟨b, i * k + o, none⟩))
  | elt {q : Loc} {x : V} {o b off : Nat} {arr : Array Value} {T : TypeId} {fz : Nat × Nat} (us : Nat → Value) (h3 : m b = some (.cells arr T fz))
      (h5 : ∀ (j : Nat) v, x.cells[j]? = some v → arr[off + j]? = some (us j) ∧ (us j).oneCell' = true) (h6 : ∀ (j : Nat) v, x.cells[j]? = some v → VR m noLoc v (us j)) : VR m q (.elt x o) (.pointer (some ⟨b, off + o, none⟩))
  | agg {q : Loc} {cs : List V} {us : List Value} (hl : cs.length = us.length) (h : ∀ (i : Nat) v u, cs[i]? = some v → us[i]? = some u → VR m q v u) : VR m q (.agg cs) (.agg us.toArray)
  | tup {q : Loc} {cs : List V} {us : List Value} (hl : cs.length = us.length) (h : ∀ (i : Nat) v u, cs[i]? = some v → us[i]? = some u → VR m q v u) : VR m q (.tup cs) (.tuple us.toArray)
  | fn {q : Loc} {f : FuncId} {cs : List V} {us : List Value} (hl : cs.length = us.length) (h : ∀ (i : Nat) v u, cs[i]? = some v → us[i]? = some u → VR m q v u) : VR m q (.fn f cs) (.func (.func f) #[] us.toArray)
  | map {q : Loc} {r b len cap k : Nat} (h : q r = some (some b, len, cap, k)) : VR m q (.map r) (.map (some b))
  | raw {q : Loc} {v : Value} : VR m q (.raw v) v
theorem VR.up {m m' : Mem} {q : Loc} {v : V} {u : Value} (h : VR m q v u) (hm : m.Le m') : ∀ {q' : Loc}, q.Le q' → VR m' q' v u := by
  induction h with
  | int => intro q' _; exact .int
  | bool => intro q' _; exact .bool
  | lit => intro q' _; exact .lit
  | str h => intro q' _; exact .str h
  | sl0 h h0 => intro q' _; exact .sl0 h h0
  | sl us h1 h2 h3 h4 h5 h6 ih => intro q' _; exact .sl us h1 h2 (hm _ _ h3) h4 h5 fun i h j v e => ih i h j v e (Loc.Le.refl _)
  | nil => intro q' _; exact .nil
  | own h => intro q' hq; exact .own (hq _ _ h)
  | ptr h => intro q' hq; exact .ptr (hq _ _ h)
  | elt us h3 h5 h6 ih => intro q' _; exact .elt us (hm _ _ h3) h5 fun j v e => ih j v e (Loc.Le.refl _)
  | agg hl h ih => intro q' hq; exact .agg hl fun i v u e e' => ih i v u e e' hq
  | tup hl h ih => intro q' hq; exact .tup hl fun i v u e e' => ih i v u e e' hq
  | fn hl h ih => intro q' hq; exact .fn hl fun i v u e e' => ih i v u e e' hq
  | map h => intro q' hq; exact .map (hq _ _ h)
  | raw => intro q' _; exact .raw
/-- No more than one cell. -/
def V.flat : V → Bool
  | .agg _ | .tup _ => false
  | .raw v => v.oneCell'
  | _ => true
theorem VR.one {m : Mem} {q : Loc} {v : V} {u : Value} (h : VR m q v u) (hf : v.flat = true) : u.oneCell' = true := by
  cases h <;> first | rfl | (simp [V.flat] at hf; try exact hf) | skip
/-- What does not hang on the activation's rows. -/
def V.pure : V → Bool
  | .int .. | .bool _ | .lit _ | .str _ | .sl .. | .nil | .raw _ => true
  | _ => false
theorem VR.free {m : Mem} {q : Loc} {v : V} {u : Value} (h : VR m q v u) (hf : v.pure = true) : VR m noLoc v u := by
  cases h <;> first | (simp [V.pure] at hf; done) | skip
  case int => exact .int
  case bool => exact .bool
  case lit => exact .lit
  case str h => exact .str h
  case sl0 h h0 => exact .sl0 h h0
  case sl us h1 h2 h3 h4 h5 h6 => exact .sl us h1 h2 h3 h4 h5 h6
  case nil => exact .nil
  case raw => exact .raw

/-! ### Maps -/
inductive KK where
  | int | bool | pair
def b2i (b : Bool) : Int := match b with | true => 1 | false => 0
inductive KeyV : KK → List Int → Value → Prop
  | int {n : Int} : KeyV .int [n] (.int .i64 n)
  | bool {b : Bool} : KeyV .bool [b2i b] (.bool b)
  | pair {a b : Int} : KeyV .pair [a, b] (.agg #[.int .i64 a, .int .i64 b])
def mget {α : Type} (z : α) : List (List Int × α) → List Int → α
  | [], _ => z
  | (k', a) :: r, k => if k' = k then a else mget z r k
def mput {α : Type} : List (List Int × α) → List Int → α → List (List Int × α)
  | [], k, a => [(k, a)]
  | (k', b) :: r, k, a => if k' = k then (k', a) :: r else (k', b) :: mput r k a
/-! ### Rows -/
inductive Row : Type 1 where
  | dead
  | bx (t : Option Nat) (cells : List V)
  | row (k : Nat) (els : List V)
  | rowq (k : Nat) (els : List V)
  | byt (E : Nat) (l : List UInt8)
  | pack (Q : Loc) (subs : List (List V))
  | fz {α : Type} (enc : α → V) (l : List α)
  | mp {α : Type} (kt et : Nat) (kk : KK) (enc : α → V) (ents : List (List Int × α))
/-- A box of whose type nothing is told. -/
abbrev Row.box (cells : List V) : Row := .bx none cells
abbrev Rows := List Row
def Row.mut : Row → Bool
  | .bx .. | .row .. | .rowq .. | .byt .. | .mp .. | .pack .. => true
  | _ => false
/-- Lies in one block. -/
def Row.one : Row → Bool
  | .pack .. => false
  | _ => true
/-- Block b is row r's. -/
def Occ (q : Loc) (r : Nat) (x : Row) (b : Nat) : Prop :=
  match x with
  | .pack Q subs => ∃ j n c k, j < subs.length ∧ Q j = some (some b, n, c, k)
  | _ => ∃ n c k, q r = some (some b, n, c, k)
theorem occ_one {q : Loc} {r : Nat} {x : Row} {b n c k : Nat} (h : x.one = true) (hq : q r = some (some b, n, c, k)) : Occ q r x b := by
  cases x <;> first | exact ⟨n, c, k, hq⟩ | cases h
theorem occ_inv {q : Loc} {r : Nat} {x : Row} {b : Nat} (h : x.one = true) (ho : Occ q r x b) : ∃ n c k, q r = some (some b, n, c, k) := by
  cases x <;> first | exact ho | cases h
theorem occ_q {q q' : Loc} {r r' : Nat} {x : Row} {b : Nat} (h : q' r' = q r) (ho : Occ q r x b) : Occ q' r' x b := by
  cases x <;> first | exact ho | (obtain ⟨n, c, k, e⟩ := ho; exact ⟨n, c, k, h.trans e⟩)
def ElsR (m : Mem) (k : Nat) (els : List V) (arr : Array Value) : Prop :=
  ∀ (i : Nat) x, els[i]? = some x → x.cells.length = k ∧ ∀ (j : Nat) v, x.cells[j]? = some v → ∃ u, arr[i * k + j]? = some u ∧ u.oneCell' = true ∧ VR m noLoc v u
/-- Elements that may be rows of one's own. -/
def ElsQ (m : Mem) (q : Loc) (k : Nat) (els : List V) (arr : Array Value) : Prop :=
  ∀ (i : Nat) x, els[i]? = some x → x.cells.length = k ∧ ∀ (j : Nat) v, x.cells[j]? = some v → ∃ u, arr[i * k + j]? = some u ∧ u.oneCell' = true ∧ VR m q v u
def CellsR (m : Mem) (q : Loc) (cells : List V) (arr : Array Value) : Prop :=
  arr.size = cells.length ∧ ∀ (j : Nat) v, cells[j]? = some v → ∃ u, arr[j]? = some u ∧ u.oneCell' = true ∧ VR m q v u
def MapR (m : Mem) (kk : KK) {α : Type} (enc : α → V) (ents : List (List Int × α)) (es : Array MapEntry) : Prop :=
  es.size = ents.length ∧ ∀ (i : Nat) k a, ents[i]? = some (k, a) → ∃ e, es[i]? = some e ∧ KeyV kk k e.key ∧ e.val.oneCell' = true ∧ VR m noLoc (enc a) e.val
def RowOK (R m : Mem) (q : Loc) (r : Nat) : Row → Prop
  | .dead => True
  | .bx t cells => ∃ b arr T, q r = some (some b, 1, 1, cells.length) ∧ R b = some (.cells arr T) ∧ (∀ T', t = some T' → T' = T) ∧ CellsR m q cells arr
  | .row k els => ∃ ob cap, q r = some (ob, els.length, cap, k) ∧ els.length ≤ cap ∧ cap ≤ MAXL ∧ (ob = none → cap = 0) ∧ ∀ b, ob = some b → ∃ arr T fz, R b = some (.cells arr T fz) ∧ arr.size = cap * k ∧ ElsR m k els arr ∧ noFz arr.size fz
  | .rowq k els => ∃ ob cap, q r = some (ob, els.length, cap, k) ∧ els.length ≤ cap ∧ cap ≤ MAXL ∧ (ob = none → cap = 0) ∧ ∀ b, ob = some b → ∃ arr T fz, R b = some (.cells arr T fz) ∧ arr.size = cap * k ∧ ElsQ m q k els arr ∧ noFz arr.size fz
  | .byt E l => ∃ b cap arr, q r = some (some b, l.length, cap, 1) ∧ l.length ≤ cap ∧ cap ≤ MAXL ∧ R b = some (.cells arr E (0, 0)) ∧ arr.size = cap ∧ ∀ (i : Nat) x, l[i]? = some x → arr[i]? = some (.int .u8 (x.toNat : Int))
  | .pack Q subs => (∀ (j : Nat) els, subs[j]? = some els → ∃ ob cap, Q j = some (ob, els.length, cap, 1) ∧ els.length ≤ cap ∧ cap ≤ MAXL ∧ (ob = none → cap = 0) ∧ ∀ b, ob = some b → ∃ arr T fz, R b = some (.cells arr T fz) ∧ arr.size = cap * 1 ∧ ElsR m 1 els arr ∧ noFz arr.size fz) ∧
      ∀ j j' b n c k n' c' k', j < subs.length → j' < subs.length → Q j = some (some b, n, c, k) → Q j' = some (some b, n', c', k') → j = j'
  | .fz enc l => ∃ ob cap k, q r = some (ob, l.length, cap, k) ∧ VR m noLoc (.sl enc l) (.slice (row0 ob) l.length cap) ∧ ∀ i (h : i < l.length), (enc l[i]).cells.length = k
  | .mp kt et kk enc ents => ∃ b es clock, q r = some (some b, 0, 0, 0) ∧ R b = some (.map es clock) ∧ MapR m kk enc ents es
theorem ElsR.up {m m' : Mem} {k : Nat} {els : List V} {arr : Array Value} (h : ElsR m k els arr) (hm : m.Le m') : ElsR m' k els arr := fun i x e =>
  ⟨(h i x e).1, fun j v e' => let ⟨u, h1, h2, h3⟩ := (h i x e).2 j v e'; ⟨u, h1, h2, h3.up hm (Loc.Le.refl _)⟩⟩
theorem ElsQ.up {m m' : Mem} {q q' : Loc} {k : Nat} {els : List V} {arr : Array Value} (h : ElsQ m q k els arr) (hm : m.Le m') (hq : q.Le q') : ElsQ m' q' k els arr := fun i x e =>
  ⟨(h i x e).1, fun j v e' => let ⟨u, h1, h2, h3⟩ := (h i x e).2 j v e'; ⟨u, h1, h2, h3.up hm hq⟩⟩
theorem ElsR.q {m : Mem} {q : Loc} {k : Nat} {els : List V} {arr : Array Value} (h : ElsR m k els arr) : ElsQ m q k els arr := fun i x e =>
  ⟨(h i x e).1, fun j v e' => let ⟨u, h1, h2, h3⟩ := (h i x e).2 j v e'; ⟨u, h1, h2, h3.up (Mem.Le.refl m) (noLoc_le q)⟩⟩
theorem CellsR.up {m m' : Mem} {q q' : Loc} {cells : List V} {arr : Array Value} (h : CellsR m q cells arr) (hm : m.Le m') (hq : q.Le q') : CellsR m' q' cells arr :=
  ⟨h.1, fun j v e => let ⟨u, h1, h2, h3⟩ := h.2 j v e; ⟨u, h1, h2, h3.up hm hq⟩⟩
theorem RowOK.up {R R' m m' : Mem} {q q' : Loc} {r : Nat} {x : Row} (h : RowOK R m q r x) (hm : m.Le m') (hq : q.Le q') (hR : x.mut = true → ∀ b, Occ q r x b → R' b = R b) : RowOK R' m' q' r x := by
  cases x with
  | dead => trivial
  | bx t cells =>
    obtain ⟨b, arr, T, h1, h2, hT, h3⟩ := h
    exact ⟨b, arr, T, hq _ _ h1, by rw [hR rfl _ ⟨_, _, _, h1⟩]; exact h2, hT, h3.up hm hq⟩
  | row k els =>
    obtain ⟨ob, cap, h1, h2, h3, h4, h5⟩ := h
    refine ⟨ob, cap, hq _ _ h1, h2, h3, h4, fun b e => ?_⟩
    obtain ⟨arr, T, fz, h6, h7, h8, h9⟩ := h5 b e
    subst e
    exact ⟨arr, T, fz, by rw [hR rfl _ ⟨_, _, _, h1⟩]; exact h6, h7, h8.up hm, h9⟩
  | rowq k els =>
    obtain ⟨ob, cap, h1, h2, h3, h4, h5⟩ := h
    refine ⟨ob, cap, hq _ _ h1, h2, h3, h4, fun b e => ?_⟩
    obtain ⟨arr, T, fz, h6, h7, h8, h9⟩ := h5 b e
    subst e
    exact ⟨arr, T, fz, by rw [hR rfl _ ⟨_, _, _, h1⟩]; exact h6, h7, h8.up hm hq, h9⟩
  | byt E l =>
    obtain ⟨b, cap, arr, h1, h2, h3, h4, h5⟩ := h
    exact ⟨b, cap, arr, hq _ _ h1, h2, h3, by rw [hR rfl _ ⟨_, _, _, h1⟩]; exact h4, h5⟩
  | pack Q subs =>
    refine ⟨fun j els hj => ?_, h.2⟩
    obtain ⟨ob, cap, h1, h2, h3, h4, h5⟩ := h.1 j els hj
    refine ⟨ob, cap, h1, h2, h3, h4, fun b e => ?_⟩
    obtain ⟨arr, T, fz, h6, h7, h8, h9⟩ := h5 b e
    subst e
    exact ⟨arr, T, fz, by rw [hR rfl _ ⟨j, _, _, _, (List.getElem?_eq_some_iff.1 hj).1, h1⟩]; exact h6, h7, h8.up hm, h9⟩
  | fz enc l =>
    obtain ⟨ob, cap, k, h1, h2, h3⟩ := h
    exact ⟨ob, cap, k, hq _ _ h1, h2.up hm (Loc.Le.refl _), h3⟩
  | mp kt et kk enc ents =>
    obtain ⟨b, es, clock, h1, h2, h3, h4⟩ := h
    exact ⟨b, es, clock, hq _ _ h1, by rw [hR rfl _ ⟨_, _, _, h1⟩]; exact h2, h3, fun i k a e => let ⟨x, g1, g2, g3, g4⟩ := h4 i k a e; ⟨x, g1, g2, g3, g4.up hm (Loc.Le.refl _)⟩⟩
structure RowsOK (R m : Mem) (q : Loc) (rows : Rows) : Prop where
  fresh : ∀ r x, q r = some x → r < rows.length
  row : ∀ (r : Nat) x, rows[r]? = some x → RowOK R m q r x
  apart : ∀ (r r' : Nat) x x' b, rows[r]? = some x → rows[r']? = some x' → x.mut = true → x'.mut = true → Occ q r x b → Occ q r' x' b → r = r'
/-- What lies in memory for good: package-level variables that are told of. -/
class Glob where
  mem : Mem
variable [Glob]
/-- Whence an activation starts: the world, and the blocks of it that it may write. -/
structure Start where
  w : World
  X : List Nat
structure Sit (w0 : Start) (m0 R m : Mem) (w : World) : Prop where
  bel : Bel w0.X w0.w w
  own : ∀ b o, R b = some o → (w0.w.heap.size ≤ b ∨ b ∈ w0.X) ∧ w.heap[b]? = some o ∧ m b = none
  mem : Sub m w
  low : ∀ b o, m b = some o → b < w0.w.heap.size → b ∉ w0.X → m0 b = some o
  glob : Glob.mem.Le m
section
variable {w0 : Start} {w w' : World} {m0 R m : Mem}
theorem Sit.lt (S : Sit w0 m0 R m w) {b : Nat} {o : Obj} (h : R b = some o) : b < w.heap.size := lt_of_heap (S.own b o h).2.1
theorem Sit.start (hm : Sub m w) (hg : Glob.mem.Le m) : Sit ⟨w, []⟩ m (fun _ => none) m w := ⟨Bel.refl _ _, fun b o h => by simp at h, hm, fun _ _ h _ _ => h, hg⟩
/-- A step that writes nothing that was there. -/
theorem Sit.step (S : Sit w0 m0 R m w) (h : Bel [] w w') : Sit w0 m0 R m w' :=
  ⟨S.bel.then h (fun _ h => by cases h), fun b o hb => ⟨(S.own b o hb).1, by rw [h.block _ (S.lt hb) (by simp)]; exact (S.own b o hb).2.1, (S.own b o hb).2.2⟩,
    fun b o e => by rw [h.block _ (S.mem.lt e) (by simp)]; exact S.mem b o e, S.low, S.glob⟩
/-- .. and what it made stays. -/
theorem Sit.grow (S : Sit w0 m0 R m w) (h : Bel [] w w') : Sit w0 m0 R (grow m w w') w' :=
  ⟨(S.step h).bel, fun b o hb => ⟨((S.step h).own b o hb).1, ((S.step h).own b o hb).2.1, by unfold Gw.grow; rw [if_pos (S.lt hb)]; exact (S.own b o hb).2.2⟩,
    fun b o e => by
      unfold Gw.grow at e
      split at e
      · exact (S.step h).mem b o e
      · exact e,
    fun b o e hb hx => by
      unfold Gw.grow at e
      rw [if_pos (Nat.lt_of_lt_of_le hb S.bel.size)] at e
      exact S.low b o e hb hx,
    S.glob.trans fun b o e => by unfold Gw.grow; rw [if_pos (S.mem.lt e)]; exact e⟩
theorem Sit.new (S : Sit w0 m0 R m w) (o : Obj) : Sit w0 m0 (R.put w.heap.size o) m (w.alloc o) := by
  have T := S.step (Bel.alloc [] w o)
  refine ⟨T.bel, fun b o' h => ?_, T.mem, S.low, S.glob⟩
  unfold Mem.put at h
  split at h
  · rename_i e
    subst e
    cases h
    refine ⟨.inl S.bel.size, Gw.heap_alloc_new w o, ?_⟩
    cases hm : m w.heap.size with
    | none => rfl
    | some o' => have := S.mem.lt hm; omega
  · exact T.own b o' h
/-- A step that writes one block alone. -/
theorem Sit.write (S : Sit w0 m0 R m w) {b : Nat} {o o' : Obj} (h : R b = some o) (hw : Bel [b] w w') (hn : w'.heap[b]? = some o') : Sit w0 m0 (R.put b o') m w' := by
  have hb := S.own b o h
  refine ⟨S.bel.then hw (fun k hk => by simp at hk; subst hk; exact hb.1), fun k o2 hk => ?_, fun k o2 e => ?_, S.low, S.glob⟩
  · unfold Mem.put at hk
    split at hk
    · rename_i e; subst e; cases hk; exact ⟨hb.1, hn, hb.2.2⟩
    · rename_i e
      have := S.own k o2 hk
      exact ⟨this.1, by rw [hw.block _ (S.lt hk) (by simpa using e)]; exact this.2.1, this.2.2⟩
  · rw [hw.block _ (S.mem.lt e) (by
      intro hx; simp at hx; subst hx
      rw [hb.2.2] at e; cases e)]
    exact S.mem k o2 e
def Mem.del (R : Mem) (b : Nat) : Mem := fun k => if k = b then none else R k
theorem Sit.freeze (S : Sit w0 m0 R m w) {b : Nat} {o : Obj} (h : R b = some o) : Sit w0 m0 (Mem.del R b) (m.put b o) w ∧ m.Le (m.put b o) := by
  have hb := S.own b o h
  have hle : m.Le (m.put b o) := fun k o' e => by
    unfold Mem.put
    split
    · rename_i h'; subst h'; rw [hb.2.2] at e; cases e
    · exact e
  refine ⟨⟨S.bel, fun k o' hk => ?_, fun k o' e => ?_, fun k o' e hk hx => ?_, S.glob.trans hle⟩, hle⟩
  · unfold Mem.del at hk
    split at hk
    · cases hk
    · rename_i e
      have := S.own k o' hk
      refine ⟨this.1, this.2.1, ?_⟩
      unfold Mem.put
      rw [if_neg e]; exact this.2.2
  · unfold Mem.put at e
    split at e
    · rename_i h'; subst h'; rw [hb.2.1]; exact e
    · exact S.mem k o' e
  · unfold Mem.put at e
    rw [if_neg (fun h => by
      subst h
      rcases hb.1 with h | h
      · omega
      · exact hx h)] at e
    exact S.low k o' e hk hx
/-- What stays is told by the end. -/
theorem Sit.le {w0 : World} (S : Sit ⟨w0, []⟩ m0 R m w) : m.Le (Gw.grow m0 w0 w) := fun b o e => by
  unfold Gw.grow
  split
  · rename_i h; exact S.low b o e h (fun h => by cases h)
  · exact S.mem b o e
end
end Gv
end PartV1
section PartV2
/-! What a function does, as a formula: `K` of what it comes to, upon conditions. -/
namespace Gv
open Go Go.RowKit Gw
variable [Glob]

def byteV (b : UInt8) : V := .int .u8 b.toNat
def strV (s : List UInt8) : V := .str s
inductive TK where
  | other | bool | str | int (k : IntKind) | slice (E : Nat) | struct (fs : List (Nat × Nat)) | array (n E : Nat) | map (K E : Nat) | iface
/-- One of two ways, as one likes. -/
inductive Opt (A B : Prop) : Prop
  | a (h : A)
  | b (h : B)
structure TI where
  zero : Value
  size : Nat
  bytes : Nat
  agg : Bool
  kind : TK
/-- A function; regions that are joined; what comes ahead of what in regions that draw. -/
abbrev Spec := List V → (V → Prop) → Prop
/-- What a function does to rows, too. -/
abbrev PSpec := List V → List Row → (V → List Row → Prop) → Prop
structure FnI where
  fn : Func
  hooks : List Nat := []
  draws : List (Nat × List Nat) := []
  frz : Bool := false
  /-- not entered, but told of, at these very rows -/
  spec : Option PSpec := none
structure Env where
  P : Program
  tys : List (Nat × TI)
  lib : List (Nat × Spec)
  fns : List (Nat × FnI)
  prims : List (Nat × PSpec) := []
  eqs : List (Nat × List Bool) := []
def look.{u} {α : Type u} : List (Nat × α) → Nat → Option α
  | [], _ => none
  | (k, v) :: r, t => match Nat.beq k t with | true => some v | false => look r t
def nth.{u} {α : Type u} : List α → Nat → Option α
  | [], _ => none
  | x :: _, 0 => some x
  | _ :: r, n + 1 => nth r n
def memN (t : Nat) : List Nat → Bool
  | [] => false
  | x :: r => match Nat.beq x t with | true => true | false => memN t r
abbrev VSlots := List (Nat × V)
def numK (n : Nat) (k : Nat → Prop) : Prop :=
  match n with
  | 0 => k 0 | 1 => k 1 | 2 => k 2 | 3 => k 3 | 4 => k 4 | 5 => k 5 | 6 => k 6 | 7 => k 7 | 8 => k 8 | 9 => k 9
  | 10 => k 10 | 11 => k 11 | 12 => k 12 | 13 => k 13 | 14 => k 14 | 15 => k 15 | 16 => k 16 | 17 => k 17 | 18 => k 18 | 19 => k 19
  | 20 => k 20 | 21 => k 21 | 22 => k 22 | 23 => k 23 | 24 => k 24 | 25 => k 25 | 26 => k 26 | 27 => k 27 | 28 => k 28 | 29 => k 29
  | n => k n
/-! ### Lists, spelled out -/
def takeK : Nat → List V → (List V → Prop) → Prop
  | 0, _, k => k []
  | n + 1, v :: r, k => takeK n r fun cs => k (v :: cs)
  | _ + 1, [], _ => False
def dropL.{u} {α : Type u} : Nat → List α → List α
  | 0, l => l
  | n + 1, _ :: r => dropL n r
  | _ + 1, [] => []
def storeK : List V → Nat → List V → (List V → Prop) → Prop
  | c :: r, n + 1, vs, k => storeK r n vs fun r' => k (c :: r')
  | r, 0, [], k => k r
  | _ :: r, 0, v :: vs, k => storeK r 0 vs fun r' => k (v :: r')
  | [], _ + 1, _, _ => False
  | [], 0, _ :: _, _ => False
def setK : Rows → Nat → Row → (Rows → Prop) → Prop
  | _ :: r, 0, y, k => k (y :: r)
  | x :: r, n + 1, y, k => setK r n y fun r' => k (x :: r')
  | [], _, _, _ => False
def pushK : Nat → Rows → Row → (Nat → Rows → Prop) → Prop
  | n, [], y, k => numK n fun n => k n [y]
  | n, x :: r, y, k => pushK (n + 1) r y fun i r' => k i (x :: r')
def appK.{u} {α : Type u} : List α → List α → (List α → Prop) → Prop
  | [], l, k => k l
  | x :: r, l, k => appK r l fun r' => k (x :: r')
/-! ### Values -/
def const1 : Value → Option V
  | .int k n => some (.int k n)
  | .bool b => some (.lit b)
  | .string s => match Nat.ble s.data.toList.length MAXL with | true => some (.str s.data.toList) | false => none
  | .slice none 0 0 => some .nil
  | .agg _ => none
  | .tuple _ => none
  | v => some (.raw v)
def constL : List Value → (List V → Prop) → Prop
  | [], k => k []
  | v :: r, k => match const1 v with | some x => constL r fun xs => k (x :: xs) | none => False
def constK : Value → (V → Prop) → Prop
  | .agg cs, k => constL cs.toList fun xs => k (.agg xs)
  | v, k => match const1 v with | some x => k x | none => False
def evO (L : VSlots) : Operand → (V → Prop) → Prop
  | .tmp t, k => match look L t with | some v => k v | none => False
  | .const c, k => constK c k
  | .func f, k => k (.fn f [])
  | .global _, _ => False
def evL (L : VSlots) : List Operand → (List V → Prop) → Prop
  | [], k => k []
  | x :: r, k => evO L x fun v => evL L r fun vs => k (v :: vs)
def tiK (E : Env) (T : Nat) (k : TI → Prop) : Prop := match look E.tys T with | some i => k i | none => False
/-- As good as. -/
def V.Le (v v' : V) : Prop := ∀ m u, VR m noLoc v u → VR m noLoc v' u
structure LeL (xs ys : List V) : Prop where
  len : xs.length = ys.length
  el : ∀ (i : Nat) x y, xs[i]? = some x → ys[i]? = some y → x.cells.length = y.cells.length ∧ ∀ (j : Nat) v v', x.cells[j]? = some v → y.cells[j]? = some v' → v.Le v'
theorem V.Le.refl (v : V) : v.Le v := fun _ _ h => h
theorem LeL.refl (xs : List V) : LeL xs xs := ⟨rfl, fun i x y e e' => by
  rw [e] at e'; cases e'
  exact ⟨rfl, fun j v v' h h' => by rw [h] at h'; cases h'; exact V.Le.refl _⟩⟩
/-- What is handed on stays as it is from here on. -/
def fz1 : V → Rows → (V → Rows → Prop) → Prop
  | .own r, rows, k => match nth rows r with
    | some (.row _ els) => ∃ (α : Type) (enc : α → V) (l : List α), LeL els (l.map enc) ∧ setK rows r (.fz enc l) fun rows' => k (.sl enc l) rows'
    | some (.fz enc l) => k (.sl enc l) rows
    | _ => False
  | .nil, rows, k => ∃ (α : Type) (enc : α → V), k (.sl enc []) rows
  | .lit b, rows, k => k (.bool b) rows
  | .int q n, rows, k => k (.int q n) rows
  | .bool b, rows, k => k (.bool b) rows
  | .str s, rows, k => k (.str s) rows
  | .sl enc l, rows, k => k (.sl enc l) rows
  | .raw v, rows, k => k (.raw v) rows
  | _, _, _ => False
def fzL1 (vs : List V) : Rows → (List V → Rows → Prop) → Prop :=
  List.rec (motive := fun _ => Rows → (List V → Rows → Prop) → Prop) (fun rows k => k [] rows) (fun v _ ih rows k => fz1 v rows fun v' rows' => ih rows' fun r' rows'' => k (v' :: r') rows'') vs
def fzA : V → Rows → (V → Rows → Prop) → Prop
  | .agg cs, rows, k => fzL1 cs rows fun cs' rows' => k (.agg cs') rows'
  | .fn f cs, rows, k => fzL1 cs rows fun cs' rows' => k (.fn f cs') rows'
  | v, rows, k => fz1 v rows k
def fzLA (vs : List V) : Rows → (List V → Rows → Prop) → Prop :=
  List.rec (motive := fun _ => Rows → (List V → Rows → Prop) → Prop) (fun rows k => k [] rows) (fun v _ ih rows k => fzA v rows fun v' rows' => ih rows' fun r' rows'' => k (v' :: r') rows'') vs
def fzT : V → Rows → (V → Rows → Prop) → Prop
  | .tup cs, rows, k => fzLA cs rows fun cs' rows' => k (.tup cs') rows'
  | v, rows, k => fzA v rows k
/-- The rows that a struct is made of come to stay. -/
def fzC1 : V → Rows → (V → Rows → Prop) → Prop
  | .own r, rows, k => fz1 (.own r) rows k
  | v, rows, k => k v rows
def fzCL : List V → Rows → (List V → Rows → Prop) → Prop
  | [], rows, k => k [] rows
  | v :: r, rows, k => fzC1 v rows fun v' rows' => fzCL r rows' fun r' rows'' => k (v' :: r') rows''
def fzS1 : V → Rows → (V → Rows → Prop) → Prop
  | .agg cs, rows, k => fzCL cs rows fun cs' rows' => k (.agg cs') rows'
  | v, rows, k => k v rows
def fzS : List V → Rows → (List V → Rows → Prop) → Prop
  | [], rows, k => k [] rows
  | v :: r, rows, k => fzS1 v rows fun v' rows' => fzS r rows' fun r' rows'' => k (v' :: r') rows''
/-- .. nil slices, too. -/
def fzD1 (v : V) (rows : Rows) (k : V → Rows → Prop) : Prop := match v with
  | .own r => fz1 (.own r) rows k
  | .nil => fz1 .nil rows k
  | v => k v rows
def fzDL (vs : List V) : Rows → (List V → Rows → Prop) → Prop :=
  List.rec (motive := fun _ => Rows → (List V → Rows → Prop) → Prop) (fun rows k => k [] rows) (fun v _ ih rows k => fzD1 v rows fun v' rows' => ih rows' fun r' rows'' => k (v' :: r') rows'') vs
def fzDS1 (v : V) (rows : Rows) (k : V → Rows → Prop) : Prop := match v with
  | .agg cs => fzDL cs rows fun cs' rows' => k (.agg cs') rows'
  | v => k v rows
def fzDS (vs : List V) : Rows → (List V → Rows → Prop) → Prop :=
  List.rec (motive := fun _ => Rows → (List V → Rows → Prop) → Prop) (fun rows k => k [] rows) (fun v _ ih rows k => fzDS1 v rows fun v' rows' => ih rows' fun r' rows'' => k (v' :: r') rows'') vs
/-! ### Operations -/
def loadK (agg : Bool) (sz : Nat) (cells : List V) (o : Nat) (k : V → Prop) : Prop :=
  match agg with
  | true => takeK sz (dropL o cells) fun cs => k (.agg cs)
  | false => match nth cells o with | some v => k v | none => False
def loadO (E : Env) (T : Nat) (a : V) (rows : Rows) (k : V → Prop) : Prop :=
  tiK E T fun i => match a with
    | .elt x o => loadK i.agg i.size x.cells o k
    | .ptr r j o => match nth rows r with
      | some (.bx _ cells) => match j with | 0 => loadK i.agg i.size cells o k | _ + 1 => False
      | some (.row _ els) => ∃ x, els[j]? = some x ∧ loadK i.agg i.size x.cells o k
      | some (.rowq _ els) => ∃ x, els[j]? = some x ∧ loadK i.agg i.size x.cells o k
      | some (.fz enc l) => ∃ h : j < l.length, loadK i.agg i.size (enc l[j]).cells o k
      | _ => False
    | _ => False
def allPure : List V → Bool
  | [] => true
  | v :: r => match v.pure with | true => allPure r | false => false
def allFlat : List V → Bool
  | [] => true
  | v :: r => match v.flat with | true => allFlat r | false => false
def storeO (E : Env) (T : Nat) (a v : V) (rows : Rows) (k : Rows → Prop) : Prop :=
  tiK E T fun i => match Nat.beq v.cells.length i.size, allFlat v.cells, a with
    | true, true, .ptr r j o => match nth rows r with
      | some (.bx t cells) => match j with | 0 => storeK cells o v.cells fun cells' => setK rows r (.bx t cells') k | _ + 1 => False
      | some (.row q els) => match Nat.beq o 0, Nat.beq q i.size, allPure v.cells with
        | true, true, true => j < els.length ∧ setK rows r (.row q (els.set j v)) k
        | false, _, true => ∃ x, els[j]? = some x ∧ storeK x.cells o v.cells fun cs => setK rows r (.row q (els.set j (.agg cs))) k
        | true, false, true => ∃ x, els[j]? = some x ∧ storeK x.cells o v.cells fun cs => setK rows r (.row q (els.set j (.agg cs))) k
        | _, _, false => False
      | some (.rowq q els) => match Nat.beq o 0, Nat.beq q i.size with
        | true, true => j < els.length ∧ setK rows r (.rowq q (els.set j v)) k
        | _, _ => ∃ x, els[j]? = some x ∧ storeK x.cells o v.cells fun cs => setK rows r (.rowq q (els.set j (.agg cs))) k
      | _ => False
    | _, _, _ => False
def intOp (op : BinOp) (q : IntKind) (a b : Int) (k : V → Prop) : Prop :=
  match op with
  | .lss => k (.bool (decide (a < b))) | .leq => k (.bool (decide (a ≤ b))) | .gtr => k (.bool (decide (b < a))) | .geq => k (.bool (decide (b ≤ a)))
  | .eql => k (.bool (decide (a = b))) | .neq => k (.bool (!decide (a = b)))
  | .add => match q with | .i64 => I64 (a + b) ∧ k (.int .i64 (a + b)) | _ => False
  | .sub => match q with | .i64 => I64 (a - b) ∧ k (.int .i64 (a - b)) | _ => False
  | .mul => match q with | .i64 => I64 (a * b) ∧ k (.int .i64 (a * b)) | _ => False
  | .quo => match q with | .i64 => (0 ≤ a ∧ a ≤ 9223372036854775807 ∧ 1 ≤ b) ∧ k (.int .i64 (a / b)) | _ => False
  | .rem => match q with | .i64 => b ≠ 0 ∧ k (.int .i64 (a.tmod b)) | _ => False
  | _ => False
def strOp (op : BinOp) (a b : List UInt8) (k : V → Prop) : Prop :=
  match op with
  | .eql => k (.bool (decide (a = b))) | .neq => k (.bool (!decide (a = b))) | .lss => k (.bool (Op.bytesLess a b))
  | .leq => k (.bool (Op.bytesLess a b || decide (a = b))) | .gtr => k (.bool (!(Op.bytesLess a b || decide (a = b)))) | .geq => k (.bool (!Op.bytesLess a b))
  | .add => a.length + b.length ≤ MAXL ∧ k (.str (a ++ b))
  | _ => False
/-- A struct of integers (true) and strings. -/
def flatB (P : Program) (T : Nat) (ks : List Bool) : Bool :=
  match P.underlying T with
  | some (.struct fields) => !P.stoodInHeld T && !P.eqGuardType P.depth T && Nat.beq fields.toList.length ks.length && (fields.toList.zipIdx.all fun p => p.1.name != "_" && Nat.beq p.1.offset p.2 && (match P.underlying p.1.type, nth ks p.2 with | some (.int .i64), some true => true | some .string, some false => true | _, _ => false))
  | _ => false
def eqCells : List Bool → List V → List V → (Bool → Prop) → Prop
  | [], [], [], k => k true
  | true :: ks, .int .i64 a :: r, .int .i64 b :: s, k => eqCells ks r s fun c => k (decide (a = b) && c)
  | false :: ks, .str a :: r, .str b :: s, k => eqCells ks r s fun c => k (decide (a = b) && c)
  | _, _, _, _ => False
def ikEq : IntKind → IntKind → Bool
  | .i64, .i64 => true
  | .u8, .u8 => true
  | .i32, .i32 => true
  | .u64, .u64 => true
  | .u32, .u32 => true
  | _, _ => false
def boolOf : V → Option Bool
  | .bool b => some b
  | .lit b => some b
  | _ => none
def binO (E : Env) (op : BinOp) (T : Nat) (x y : V) (k : V → Prop) : Prop :=
  match x, y with
  | .int q a, .int q' b => match ikEq q q' with | true => intOp op q a b k | false => False
  | .str a, .str b => strOp op a b k
  | .agg xs, .agg ys => match look E.eqs T with
    | some [] => False
    | some n => match op with
      | .eql => eqCells n xs ys fun b => k (.bool b)
      | .neq => eqCells n xs ys fun b => k (.bool (!b))
      | _ => False
    | none => False
  | .sl enc l, .nil => tiK E T fun i => match i.kind, op with
    | .slice _, .eql => ∀ b : Bool, (b = true → l = []) → k (.bool b)
    | .slice _, .neq => ∀ b : Bool, (b = true → l = []) → k (.bool (!b))
    | _, _ => False
  | x, y => tiK E T fun i => match i.kind, boolOf x, boolOf y, op with
    | .bool, some a, some b, .eql => k (.bool (a == b))
    | .bool, some a, some b, .neq => k (.bool (!(a == b)))
    | _, _, _, _ => False
/-- Held against nil. -/
def nilO (E : Env) (op : BinOp) (T : Nat) (a : V) (k : V → Prop) : Prop :=
  tiK E T fun i => match i.kind, a, op with
    | .iface, .raw .nilIface, .eql => k (.lit true)
    | .iface, .raw .nilIface, .neq => k (.lit false)
    | .iface, .raw (.iface _ _), .eql => k (.lit false)
    | .iface, .raw (.iface _ _), .neq => k (.lit true)
    | _, _, _ => False
def elsOf : V → Rows → Option (List V)
  | .sl enc l, _ => some (l.map enc)
  | .nil, _ => some []
  | .str s, _ => some (s.map byteV)
  | .own r, rows => match nth rows r with
    | some (.row _ els) => some els
    | some (.fz enc l) => some (l.map enc)
    | _ => none
  | _, _ => none
/-- Elements of `n` cells. -/
def elN (n : Nat) : V → Rows → Prop
  | .sl enc _, _ => ∀ a, (enc a).cells.length = n
  | .nil, _ => True
  | .str _, _ => n = 1
  | .own r, rows => match nth rows r with
    | some (.row q _) => Nat.beq q n = true
    | some (.fz enc _) => ∀ a, (enc a).cells.length = n
    | _ => False
  | _, _ => False
def lenO : V → Rows → (Nat → Prop) → Prop
  | .sl _ l, _, k => k l.length
  | .nil, _, k => k 0
  | .own r, rows, k => match nth rows r with
    | some (.row _ els) => k els.length
    | some (.rowq _ els) => k els.length
    | some (.fz _ l) => k l.length
    | _ => False
  | _, _, _ => False
def appO (E : Env) (T : Nat) (x y : V) (rows : Rows) (k : V → Rows → Prop) : Prop :=
  tiK E T fun i => match i.kind with
    | .slice El => tiK E El fun e => match Nat.ble 1 e.bytes with
      | true => elN e.size y rows ∧ match elsOf y rows with
        | some ys => match x with
          | .nil => ys.length * e.bytes ≤ 140737488355328 ∧ pushK 0 rows (.row e.size ys) fun r rows' => k (.own r) rows'
          | .own r => match nth rows r with
            | some (.row q els) => match Nat.beq q e.size with
              | true => (els.length + ys.length) * e.bytes ≤ 140737488355328 ∧ setK rows r .dead fun rows' => pushK 0 rows' (.row e.size (els ++ ys)) fun r' rows'' => k (.own r') rows''
              | false => False
            | _ => False
          | _ => False
        | none => False
      | false => False
    | _ => False
/-! Maps -/
def kkOf (E : Env) (K : Nat) : Option KK := match look E.tys K with
  | some i => match i.kind with
    | .int .i64 => some .int
    | .bool => some .bool
    | .struct _ => match look E.eqs K with
      | some [true, true] => some .pair
      | _ => none
    | _ => none
  | none => none
def keyK (kk : KK) (v : V) (k : List Int → Prop) : Prop :=
  match kk, v with
  | .int, .int .i64 n => k [n]
  | .bool, .bool b => k [b2i b]
  | .bool, .lit b => k [b2i b]
  | .pair, .agg [.int .i64 a, .int .i64 b] => k [a, b]
  | _, _ => False
def kkEq : KK → KK → Bool
  | .int, .int => true
  | .bool, .bool => true
  | .pair, .pair => true
  | _, _ => false
/-- The map that `v` is. -/
def mapK (E : Env) (T : Nat) (v : V) (rows : Rows) (k : (α : Type) → (enc : α → V) → List (List Int × α) → KK → Nat → Nat → Nat → Prop) : Prop :=
  tiK E T fun i => match i.kind, v with
    | .map K El, .map r => match nth rows r with
      | some (.mp (α := α) kt et kk enc ents) => match Nat.beq kt K, Nat.beq et El, kkOf E K with
        | true, true, some kk' => match kkEq kk kk' with
          | true => k α enc ents kk kt et r
          | false => False
        | _, _, _ => False
      | _ => False
    | _, _ => False
def mapPutO (E : Env) (T : Nat) (mv kv v : V) (rows : Rows) (k : V → Rows → Prop) : Prop :=
  mapK E T mv rows fun α enc ents kk kt et r => keyK kk kv fun ks => ∃ a : α, enc a = v ∧ v.flat = true ∧ v.pure = true ∧ setK rows r (.mp kt et kk enc (mput ents ks a)) fun rows' => k (.tup []) rows'
def mapGetO (E : Env) (T : Nat) (mv kv : V) (rows : Rows) (k : V → Prop) : Prop :=
  mapK E T mv rows fun α enc ents kk kt et r => keyK kk kv fun ks => tiK E et fun e => constK e.zero fun zv => ∃ z : α, enc z = zv ∧ k (enc (mget z ents ks))
def builtO (E : Env) (b : Builtin) (ats : List TypeId) (vs : List V) (rows : Rows) (k : V → Rows → Prop) : Prop :=
  match b, ats, vs with
  | .len, [T], [v] => tiK E T fun i => match i.kind, v with
    | .slice _, .str _ => False
    | .slice _, v => lenO v rows fun n => n ≤ MAXL → k (.int .i64 (n : Int)) rows
    | .str, .str s => s.length ≤ MAXL → k (.int .i64 (s.length : Int)) rows
    | .map _ _, v => mapK E T v rows fun α enc ents kk kt et r => k (.int .i64 (ents.length : Int)) rows
    | _, _ => False
  | .cap, [T], [.nil] => tiK E T fun i => match i.kind with
    | .slice _ => k (.int .i64 0) rows
    | _ => False
  | .append, [T, U], [.nil, .int .i64 n] => tiK E U fun u => match u.kind with
    | .int .i64 => tiK E T fun i => match i.kind with
      | .slice El => tiK E El fun e => match Nat.ble 1 e.bytes with
        | true => constK e.zero fun z => match Nat.beq z.cells.length e.size, allPure z.cells, allFlat z.cells with
          | true, true, true => ∃ c : Nat, n = (c : Int) ∧ 1 ≤ c ∧ c * e.bytes ≤ 140737488355328 ∧ pushK 0 rows (.row e.size (List.replicate c z)) fun r rows' => k (.own r) rows'
          | _, _, _ => False
        | false => False
      | _ => False
    | _ => False
  | .min, _, [.int .i64 a, .int .i64 b] => k (.int .i64 (min a b)) rows
  | .max, _, [.int .i64 a, .int .i64 b] => k (.int .i64 (max a b)) rows
  | .append, [T, U], [x, y] => tiK E U fun u => match u.kind with
    | .slice _ => appO E T x y rows k
    | .str => appO E T x y rows k
    | _ => False
  | _, _, _ => False
def placesL (E : Env) : List (Nat × Nat) → (List (Nat × Nat) → Prop) → Prop
  | [], k => k []
  | (T, off) :: r, k => tiK E T fun i => placesL E r fun ps => k ((off, i.size) :: ps)
def fillK (L : VSlots) (ps : List (Nat × Nat)) : List (Nat × Operand) → List V → (List V → Prop) → Prop
  | [], cells, k => k cells
  | (f, x) :: r, cells, k => evO L x fun v => match nth ps f with
    | some (off, sz) => match Nat.beq v.cells.length sz, allFlat v.cells with
      | true, true => storeK cells off v.cells fun cells' => fillK L ps r cells' k
      | _, _ => False
    | none => False
def partsK (E : Env) (L : VSlots) (sz i : Nat) (ps : List (Nat × Operand)) : Rows → (List V → Rows → Prop) → Prop :=
  List.rec (motive := fun _ => Nat → Rows → (List V → Rows → Prop) → Prop) (fun _ rows k => k [] rows) (fun p _ ih i rows k => match Nat.beq i p.1 with
    | true => evO L p.2 fun v => fzA v rows fun v' rows' => match Nat.beq v'.cells.length sz, allFlat v'.cells with
      | true, true => ih (i + 1) rows' fun vs rows'' => k (v' :: vs) rows''
      | _, _ => False
    | false => False) ps i
theorem partsK_cons {E : Env} {L : VSlots} {sz i j : Nat} {x : Operand} {r : List (Nat × Operand)} {rows : Rows} {k : List V → Rows → Prop} : partsK E L sz i ((j, x) :: r) rows k = match Nat.beq i j with
    | true => evO L x fun v => fzA v rows fun v' rows' => match Nat.beq v'.cells.length sz, allFlat v'.cells with
      | true, true => partsK E L sz (i + 1) r rows' fun vs rows'' => k (v' :: vs) rows''
      | _, _ => False
    | false => False := rfl
def idxO (v : V) (n : Int) (sz : Nat) (rows : Rows) (k : V → Prop) : Prop :=
  match v with
  | .sl enc l => ∃ i : Nat, n = (i : Int) ∧ ∃ h : i < l.length, (enc l[i]).cells.length = sz ∧ k (.elt (enc l[i]) 0)
  | .own r => match nth rows r with
    | some (.row q els) => Nat.beq q sz = true ∧ ∃ i : Nat, n = (i : Int) ∧ i < els.length ∧ k (.ptr r i 0)
    | some (.rowq q els) => Nat.beq q sz = true ∧ ∃ i : Nat, n = (i : Int) ∧ i < els.length ∧ k (.ptr r i 0)
    | some (.fz enc l) => ∃ i : Nat, n = (i : Int) ∧ ∃ h : i < l.length, (enc l[i]).cells.length = sz ∧ k (.elt (enc l[i]) 0)
    | _ => False
  | _ => False
def boundK (L : VSlots) (x : Option Operand) (dflt : Nat) (k : Int → Prop) : Prop :=
  match x with
  | none => k (dflt : Int)
  | some o => evO L o fun v => match v with | .int _ n => k n | _ => False
/-- A row of one's own, cut behind. -/
def ownTake (v : V) (lo hi : Option Operand) (rows : Rows) : Option (Nat × Nat × List V) :=
  match v, lo, hi with
  | .own r, none, some _ => match nth rows r with
    | some (.row q els) => some (r, q, els)
    | _ => none
  | _, _, _ => none
def sliceO (E : Env) (L : VSlots) (T : Nat) (v : V) (lo hi : Option Operand) (rows : Rows) (k : V → Rows → Prop) : Prop :=
  match v with
  | .str s => tiK E T fun i => match i.kind with
    | .str => boundK L lo 0 fun l => boundK L hi s.length fun h => ∃ l' h' : Nat, l = (l' : Int) ∧ h = (h' : Int) ∧ l' ≤ h' ∧ h' ≤ s.length ∧ k (.str ((s.take h').drop l')) rows
    | _ => False
  | .nil => tiK E T fun i => match i.kind with
    | .slice El => tiK E El fun e => boundK L lo 0 fun l => boundK L hi 0 fun h => l = 0 ∧ h = 0 ∧ k .nil rows
    | _ => False
  | .elt x o => match hi with
    | none => tiK E T fun i => match i.kind with
      | .array n El => tiK E El fun e => match Nat.beq e.size 1 with
        | true => boundK L lo 0 fun a => ∃ (α : Type) (enc : α → V) (l : List α) (a' : Nat), a = (a' : Int) ∧ a' ≤ n ∧ n ≤ MAXL ∧ l.length = n ∧ (∀ z, (enc z).cells = [enc z]) ∧ (x.cells.drop o).take n = l.map enc ∧ k (.sl enc (l.drop a')) rows
        | false => False
      | _ => False
    | some _ => False
  | v => tiK E T fun i => match i.kind with
    | .slice El => tiK E El fun e => match ownTake v lo hi rows with
     | some (r, q, els) => match Nat.beq q e.size with
       | true => boundK L hi 0 fun b => ∃ b' : Nat, b = (b' : Int) ∧ b' ≤ els.length ∧ setK rows r .dead fun rows' => pushK 0 rows' (.row q (els.take b')) fun r' rows'' => k (.own r') rows''
       | false => False
     | none => fz1 v rows fun v' rows' => match v' with
      | .sl enc l => (∀ a, (enc a).cells.length = e.size) ∧ match lo, hi with
        | some lo, none => boundK L (some lo) 0 fun a => ∃ a' : Nat, a = (a' : Int) ∧ a' ≤ l.length ∧ k (.sl enc (l.drop a')) rows'
        | none, some hi => boundK L (some hi) 0 fun b => ∃ b' : Nat, b = (b' : Int) ∧ b' ≤ l.length ∧ k (.sl enc (l.take b')) rows'
        | some lo, some hi => boundK L (some lo) 0 fun a => boundK L (some hi) 0 fun b => ∃ a' b' : Nat, a = (a' : Int) ∧ b = (b' : Int) ∧ a' ≤ b' ∧ b' ≤ l.length ∧ k (.sl enc ((l.take b').drop a')) rows'
        | none, none => False
      | _ => False
    | _ => False
abbrev CallT := FuncId → List V → Rows → (V → Rows → Prop) → Prop
def xop (E : Env) (call : CallT) (dr : Bool) (L : VSlots) (rows : Rows) (op : Op) (k : V → Rows → Prop) : Prop :=
  match op with
  | .move x => evO L x fun v => k v rows
  | .assign x => evO L x fun v => k v rows
  | .pick c a b => evO L c fun cv => match cv with
    | .lit true => evO L a fun v => k v rows
    | .lit false => evO L b fun v => k v rows
    | .bool t => ∀ s : Bool, t = s → match s with | true => evO L a fun v => k v rows | false => evO L b fun v => k v rows
    | _ => False
  | .alloc T => tiK E T fun i => constL i.zero.cells.toList fun cs => match look E.eqs T with
    | some [] => pushK 0 rows (.bx (some T) cs) fun r rows' => k (.ptr r 0 0) rows'
    | _ => pushK 0 rows (.box cs) fun r rows' => k (.ptr r 0 0) rows'
  | .box T x => evO L x fun v => match allFlat v.cells with
    | true => pushK 0 rows (.box v.cells) fun r rows' => k (.ptr r 0 0) rows'
    | false => False
  | .build T ps => tiK E T fun i => match i.kind with
    | .struct fs => constL i.zero.cells.toList fun cs => placesL E fs fun pl => fillK L pl ps.toList cs fun cs' => k (.agg cs') rows
    | _ => False
  | .buildSlice T n ps => tiK E T fun i => match i.kind with
    | .slice El => tiK E El fun e => match Nat.beq ps.toList.length n, Nat.ble (n * e.size) 16777216, Nat.ble n 16777216 with
      | true, true, true => partsK E L e.size 0 ps.toList rows fun els rows' => match dr with
        | false => pushK 0 rows' (.row e.size els) fun r rows'' => k (.own r) rows''
        | true => ∃ (α : Type) (enc : α → V) (l : List α), LeL els (l.map enc) ∧ k (.sl enc l) rows'
      | _, _, _ => False
    | _ => False
  | .makeSlice T n c => tiK E T fun i => match i.kind with
    | .slice El => tiK E El fun e => evO L n fun nv => evO L c fun cv => match nv, cv with
      | .int .i64 a, .int .i64 b => a = b ∧ match Nat.ble 1 e.bytes with
        | true => constK e.zero fun z => match Nat.beq z.cells.length e.size, allPure z.cells, allFlat z.cells with
          | true, true, true => ∃ c : Nat, a = (c : Int) ∧ c * e.bytes ≤ 140737488355328 ∧ match dr with
            | false => pushK 0 rows (.row e.size (List.replicate c z)) fun r rows' => k (.own r) rows'
            | true => ∃ (α : Type) (enc : α → V) (l : List α), LeL (List.replicate c z) (l.map enc) ∧ k (.sl enc l) rows
          | _, _, _ => False
        | false => False
      | _, _ => False
    | _ => False
  | .load T a => evO L a fun av => loadO E T av rows fun v => k v rows
  | .store T a x => evO L a fun av => evO L x fun v => storeO E T av v rows fun rows' => k (.tup []) rows'
  | .nilCheck x => evO L x fun v => match v with
    | .ptr r i o => k (.ptr r i o) rows
    | .elt x o => k (.elt x o) rows
    | .fn f cs => k (.fn f cs) rows
    | _ => False
  | .binOp op T x y _ => match y with
    | .const .nilIface => evO L x fun a => nilO E op T a fun v => k v rows
    | y => evO L x fun a => evO L y fun b => binO E op T a b fun v => k v rows
  | .unOp .not _ x => evO L x fun v => match v with
    | .lit true => k (.lit false) rows
    | .lit false => k (.lit true) rows
    | .bool b => k (.bool (!b)) rows
    | _ => False
  | .convert S D x => tiK E S fun si => tiK E D fun di => evO L x fun v => match si.kind, di.kind with
    | .slice El, .str => match v with
      | .str _ => False
      | v => ∃ b : List UInt8, elN 1 v rows ∧ elsOf v rows = some (b.map byteV) ∧ tiK E El fun e => match e.kind with
        | .int .u8 => k (.str b) rows
        | _ => False
    | .str, .slice El => match v with
      | .str s => s.length ≤ 140737488355328 ∧ tiK E El fun e => match e.kind with
        | .int .u8 => match dr with
          | true => k (.sl byteV s) rows
          | false => Opt (k (.sl byteV s) rows) (pushK 0 rows (.row 1 (s.map byteV)) fun r rows' => k (.own r) rows')
        | _ => False
      | _ => False
    | .slice _, .slice El => match Nat.beq S D, v with
      | true, .own r => match nth rows r with
        | some (.row _ els) => tiK E El fun e => match e.kind with
          | .int .u8 => ∃ b : List UInt8, els = b.map byteV ∧ b ≠ [] ∧ setK rows r (.fz byteV b) fun rows' => k (.sl byteV b) rows'
          | _ => False
        | _ => False
      | _, _ => False
    | .int a, .int b => match v with | .int q n => q = b ∧ b.wrap n = n ∧ k (.int b n) rows | _ => False
    | _, _ => False
  | .makeFunc (.func f) first caps => match first.toList with
    | [] => evL L caps.toList fun vs => k (.fn f vs) rows
    | _ => False
  | .slice T x lo hi none => evO L x fun v => sliceO E L T v lo hi rows k
  | .fieldAddr T x f => tiK E T fun i => match i.kind with
    | .struct fs => match nth fs f with
      | some (FT, off) => tiK E FT fun fi => match Nat.beq fi.size 0 with
        | true => False
        | false => evO L x fun v => match v with
          | .ptr r j o => k (.ptr r j (o + off)) rows
          | .elt y o => k (.elt y (o + off)) rows
          | _ => False
      | none => False
    | _ => False
  | .field T x f => tiK E T fun i => match i.kind with
    | .struct fs => match nth fs f with
      | some (FT, off) => tiK E FT fun fi => evO L x fun v => match v with
        | .agg cs => loadK fi.agg fi.size cs off fun w => k w rows
        | _ => False
      | none => False
    | _ => False
  | .indexAddr T x j => tiK E T fun i => match i.kind with
    | .slice El => tiK E El fun e => evO L x fun v => evO L j fun jv => match jv with
      | .int _ n => idxO v n e.size rows fun w => k w rows
      | _ => False
    | _ => False
  | .index T x j => evO L x fun v => evO L j fun jv => match v, jv with
    | .str s, .int _ n => ∃ i : Nat, n = (i : Int) ∧ ∃ h : i < s.length, tiK E T fun ti => match ti.kind with
      | .str => k (.int .u8 (s[i].toNat : Int)) rows
      | _ => False
    | .agg cs, .int _ n => tiK E T fun ti => match ti.kind with
      | .array len El => tiK E El fun e => match e.agg, Nat.beq e.size 1 with
        | false, true => ∃ i : Nat, n = (i : Int) ∧ i < len ∧ ∃ v, cs[i]? = some v ∧ k v rows
        | _, _ => False
      | _ => False
    | _, _ => False
  | .extract x i => evO L x fun v => match v with
    | .tup vs => match nth vs i with | some u => k u rows | none => False
    | _ => False
  | .makeMap T none => tiK E T fun i => match i.kind with
    | .map K El => match kkOf E K with
      | some kk => ∃ (α : Type) (enc : α → V), pushK 0 rows (.mp K El kk enc []) fun r rows' => k (.map r) rows'
      | none => False
    | _ => False
  | .insert T mo ko vo => evO L mo fun mv => evO L ko fun kv => evO L vo fun v => mapPutO E T mv kv v rows k
  | .mapUpdate T mo ko vo => evO L mo fun mv => evO L ko fun kv => evO L vo fun v => mapPutO E T mv kv v rows k
  | .lookup T mo ko false => evO L mo fun mv => evO L ko fun kv => mapGetO E T mv kv rows fun v => k v rows
  | .call c => evL L c.args.toList fun vs => match c.callee with
    | .builtin b => builtO E b c.argTypes.toList vs rows k
    | .value f => evO L f fun fv => match fv with
      | .fn g caps => appK vs caps fun as => call g as rows k
      | _ => False
    | .invoke .. => False
  | _ => False
/-! ### Code -/
def putV (d : Option Tmp) (v : V) (L : VSlots) : VSlots := match d with | some d => (d, v) :: L | none => L
def guardT (all : List Oper) (i : Nat) : Option Tmp := match nth all i with | some o => o.dst | none => none
def wpOps (E : Env) (call : CallT) (dr : Bool) (all : List Oper) : List Oper → VSlots → Rows → (VSlots → Rows → Prop) → Prop
  | [], L, rows, K => K L rows
  | o :: rest, L, rows, K => match o.guard with
    | none => xop E call dr L rows o.op fun v rows' => wpOps E call dr all rest (putV o.dst v L) rows' K
    | some (i, want) => match guardT all i with
      | none => False
      | some t => match look L t with
        | some (.lit b) => match b, want with
          | true, true => xop E call dr L rows o.op fun v rows' => wpOps E call dr all rest (putV o.dst v L) rows' K
          | false, false => xop E call dr L rows o.op fun v rows' => wpOps E call dr all rest (putV o.dst v L) rows' K
          | true, false => wpOps E call dr all rest (putV o.dst (.tup []) L) rows K
          | false, true => wpOps E call dr all rest (putV o.dst (.tup []) L) rows K
        | some (.bool c) => ∀ b : Bool, c = b → match b, want with
          | true, true => xop E call dr ((t, .lit true) :: L) rows o.op fun v rows' => wpOps E call dr all rest (putV o.dst v ((t, .lit true) :: L)) rows' K
          | false, false => xop E call dr ((t, .lit false) :: L) rows o.op fun v rows' => wpOps E call dr all rest (putV o.dst v ((t, .lit false) :: L)) rows' K
          | true, false => wpOps E call dr all rest (putV o.dst (.tup []) ((t, .lit true) :: L)) rows K
          | false, true => wpOps E call dr all rest (putV o.dst (.tup []) ((t, .lit false) :: L)) rows K
        | some (.tup []) => wpOps E call dr all rest (putV o.dst (.tup []) L) rows K
        | _ => False
/-! ### Regions that draw their order -/
def noRefL : List V → Bool
  | [] => true
  | v :: r => match v with
    | .own _ => false
    | .ptr .. => false
    | .map _ => false
    | .agg _ => false
    | .tup _ => false
    | .fn .. => false
    | _ => noRefL r
def noRef : V → Bool
  | .agg cs => noRefL cs
  | .fn _ cs => noRefL cs
  | v => noRefL [v]
def opsRef (L : VSlots) : List Operand → Bool
  | [] => true
  | .tmp t :: r => match look L t with
    | some v => match noRef v with | true => opsRef L r | false => false
    | none => false
  | _ :: r => opsRef L r
/-- May it read what is written beside it? -/
def needsRows (L : VSlots) : Op → Bool
  | .move _ | .assign _ | .pick .. | .build .. | .nilCheck _ | .binOp .. | .unOp .. | .makeFunc .. | .fieldAddr .. | .field .. | .extract .. | .makeSlice .. => false
  | .load _ a => !opsRef L [a]
  | .indexAddr _ x _ => !opsRef L [x]
  | .call c => !opsRef L c.args.toList
  | .buildSlice _ _ ps => !opsRef L (ps.toList.map (·.2))
  | .convert _ _ x => !opsRef L [x]
  | .slice _ x _ _ _ => !opsRef L [x]
  | _ => true
def loudB (E : Env) (o : Oper) : Bool :=
  match o.op with
  | .store .. | .alloc _ | .box .. => true
  | .call c => match c.callee with
    | .builtin .append => true
    | .builtin _ => false
    | .value (.func f) => match look E.lib f with | some _ => false | none => true
    | _ => true
  | .move _ | .assign _ | .pick .. | .build .. | .buildSlice .. | .load .. | .nilCheck _ | .binOp .. | .unOp .. | .makeFunc .. | .fieldAddr .. | .field .. | .indexAddr .. | .index .. | .extract .. | .makeSlice .. | .lookup .. => false
  | .slice _ _ lo hi _ => match lo, hi with | none, some _ => false | _, _ => false
  | .convert S D _ => match Nat.beq S D with | true => true | false => false
  | _ => true
def bitB (ms : List Nat) (i j : Nat) : Bool := match nth ms j with | some m => Nat.testBit m i | none => false
def chkPast (E : Env) (call : CallT) (ms : List Nat) (j : Nat) (op : Op) (L : VSlots) (v : V) : List (Nat × Rows) → Prop
  | [] => True
  | (i, r) :: past => match bitB ms i j with
    | true => chkPast E call ms j op L v past
    | false => (xop E call true L r op fun v' r' => v' = v ∧ r' = r) ∧ chkPast E call ms j op L v past
def chkPend (E : Env) (call : CallT) (ms : List Nat) (i : Nat) (r : Rows) : List (Nat × Op × VSlots × V) → Prop
  | [] => True
  | (j, op, L, v) :: pend => match bitB ms j i with
    | true => chkPend E call ms i r pend
    | false => (xop E call true L r op fun v' r' => v' = v ∧ r' = r) ∧ chkPend E call ms i r pend
def dOps (E : Env) (call : CallT) (ms : List Nat) (all : List Oper) : Nat → List Oper → VSlots → Rows → List (Nat × Rows) → List (Nat × Op × VSlots × V) → (VSlots → Rows → Prop) → Prop
  | _, [], L, rows, _, _, K => K L rows
  | j, o :: rest, L, rows, past, pend, K =>
    let run (L1 : VSlots) : Prop := match loudB E o with
      | false => ∃ v, (xop E call true L1 rows o.op fun v' r' => v' = v ∧ r' = rows) ∧ match needsRows L1 o.op with
        | true => chkPast E call ms j o.op L1 v past ∧ dOps E call ms all (j + 1) rest (putV o.dst v L1) rows past ((j, o.op, L1, v) :: pend) K
        | false => dOps E call ms all (j + 1) rest (putV o.dst v L1) rows past pend K
      | true => ∃ v rows', (xop E call true L1 rows o.op fun v' r' => v' = v ∧ r' = rows') ∧ chkPend E call ms j rows' pend ∧ dOps E call ms all (j + 1) rest (putV o.dst v L1) rows' ((j, rows) :: past) pend K
    let skip (L1 : VSlots) : Prop := dOps E call ms all (j + 1) rest (putV o.dst (.tup []) L1) rows past pend K
    match o.guard with
    | none => run L
    | some (i, want) => match guardT all i with
      | none => False
      | some t => match look L t with
        | some (.lit b) => match b, want with
          | true, true => run L
          | false, false => run L
          | true, false => skip L
          | false, true => skip L
        | some (.bool c) => ∀ b : Bool, c = b → match b, want with
          | true, true => run ((t, .lit true) :: L)
          | false, false => run ((t, .lit false) :: L)
          | true, false => skip ((t, .lit true) :: L)
          | false, true => skip ((t, .lit false) :: L)
        | some (.tup []) => skip L
        | _ => False
/-! The same, so that the kernel and the elaborator unfold alike. -/
def wpOpsR (E : Env) (call : CallT) (dr : Bool) (all : List Oper) (l : List Oper) : VSlots → Rows → (VSlots → Rows → Prop) → Prop :=
  List.rec (motive := fun _ => VSlots → Rows → (VSlots → Rows → Prop) → Prop) (fun L rows K => K L rows) (fun o _ ih L rows K => match o.guard with
    | none => xop E call dr L rows o.op fun v rows' => ih (putV o.dst v L) rows' K
    | some (i, want) => match guardT all i with
      | none => False
      | some t => match look L t with
        | some (.lit b) => match b, want with
          | true, true => xop E call dr L rows o.op fun v rows' => ih (putV o.dst v L) rows' K
          | false, false => xop E call dr L rows o.op fun v rows' => ih (putV o.dst v L) rows' K
          | true, false => ih (putV o.dst (.tup []) L) rows K
          | false, true => ih (putV o.dst (.tup []) L) rows K
        | some (.bool c) => ∀ b : Bool, c = b → match b, want with
          | true, true => xop E call dr ((t, .lit true) :: L) rows o.op fun v rows' => ih (putV o.dst v ((t, .lit true) :: L)) rows' K
          | false, false => xop E call dr ((t, .lit false) :: L) rows o.op fun v rows' => ih (putV o.dst v ((t, .lit false) :: L)) rows' K
          | true, false => ih (putV o.dst (.tup []) ((t, .lit true) :: L)) rows K
          | false, true => ih (putV o.dst (.tup []) ((t, .lit false) :: L)) rows K
        | some (.tup []) => ih (putV o.dst (.tup []) L) rows K
        | _ => False) l
def dRun (E : Env) (call : CallT) (ms : List Nat) (o : Oper) (j : Nat) (rows : Rows) (past : List (Nat × Rows)) (pend : List (Nat × Op × VSlots × V)) (k : VSlots → Rows → List (Nat × Rows) → List (Nat × Op × VSlots × V) → Prop) (L1 : VSlots) : Prop := match loudB E o with
  | false => ∃ v, (xop E call true L1 rows o.op fun v' r' => v' = v ∧ r' = rows) ∧ match needsRows L1 o.op with
    | true => chkPast E call ms j o.op L1 v past ∧ k (putV o.dst v L1) rows past ((j, o.op, L1, v) :: pend)
    | false => k (putV o.dst v L1) rows past pend
  | true => ∃ v rows', (xop E call true L1 rows o.op fun v' r' => v' = v ∧ r' = rows') ∧ chkPend E call ms j rows' pend ∧ k (putV o.dst v L1) rows' ((j, rows) :: past) pend
def dOpsR (E : Env) (call : CallT) (ms : List Nat) (all : List Oper) (j : Nat) (l : List Oper) : VSlots → Rows → List (Nat × Rows) → List (Nat × Op × VSlots × V) → (VSlots → Rows → Prop) → Prop :=
  List.rec (motive := fun _ => Nat → VSlots → Rows → List (Nat × Rows) → List (Nat × Op × VSlots × V) → (VSlots → Rows → Prop) → Prop) (fun _ L rows _ _ K => K L rows)
    (fun o _ ih j L rows past pend K => match o.guard with
      | none => dRun E call ms o j rows past pend (fun L' r' p' q' => ih (j + 1) L' r' p' q' K) L
      | some (i, want) => match guardT all i with
        | none => False
        | some t => match look L t with
          | some (.lit b) => match b, want with
            | true, true => dRun E call ms o j rows past pend (fun L' r' p' q' => ih (j + 1) L' r' p' q' K) L
            | false, false => dRun E call ms o j rows past pend (fun L' r' p' q' => ih (j + 1) L' r' p' q' K) L
            | true, false => ih (j + 1) (putV o.dst (.tup []) L) rows past pend K
            | false, true => ih (j + 1) (putV o.dst (.tup []) L) rows past pend K
          | some (.bool c) => ∀ b : Bool, c = b → match b, want with
            | true, true => dRun E call ms o j rows past pend (fun L' r' p' q' => ih (j + 1) L' r' p' q' K) ((t, .lit true) :: L)
            | false, false => dRun E call ms o j rows past pend (fun L' r' p' q' => ih (j + 1) L' r' p' q' K) ((t, .lit false) :: L)
            | true, false => ih (j + 1) (putV o.dst (.tup []) ((t, .lit true) :: L)) rows past pend K
            | false, true => ih (j + 1) (putV o.dst (.tup []) ((t, .lit false) :: L)) rows past pend K
          | some (.tup []) => ih (j + 1) (putV o.dst (.tup []) L) rows past pend K
          | _ => False) l j
theorem wpOpsR_eq (E : Env) (call : CallT) (dr : Bool) (all : List Oper) : ∀ l, wpOpsR E call dr all l = wpOps E call dr all l
  | [] => rfl
  | o :: l => by
    have ih := wpOpsR_eq E call dr all l
    funext L rows K
    unfold wpOps
    rw [← ih]
    rfl
theorem dOpsR_eq (E : Env) (call : CallT) (ms : List Nat) (all : List Oper) : ∀ l j, dOpsR E call ms all j l = dOps E call ms all j l
  | [], j => rfl
  | o :: l, j => by
    have ih := dOpsR_eq E call ms all l (j + 1)
    funext L rows past pend K
    unfold dOps
    rw [← ih]
    rfl
def opT : List Operand → List Nat
  | [] => []
  | .tmp t :: r => t :: opT r
  | _ :: r => opT r
def namesO (all : List Oper) (o : Oper) : List Nat :=
  opT o.op.operands.toList ++ (match o.guard with | some (g, _) => (guardT all g).toList | none => [])
def apartB (all : List Oper) (x y : Oper) : Bool :=
  (match x.dst with | some d => !memN d (namesO all y) && (match y.dst with | some e => !Nat.beq d e | none => true) | none => true) &&
  (match y.dst with | some d => !memN d (namesO all x) | none => true)
def maskOf (ms : List Nat) (o : Oper) : Nat := o.after.toList.foldl (fun s e => if Region.binds .any e then s ||| 2 ^ e.on ||| (nth ms e.on).getD 0 else s) 0
def drawB (E : Env) (all : List Oper) (ms : List Nat) : Bool :=
  Nat.beq ms.length all.length &&
  (List.range all.length).all fun j => match nth all j with
    | none => true
    | some o => (o.after.toList.all fun e => !Region.binds .any e || Nat.blt e.on j) && Nat.beq ((nth ms j).getD 0) (maskOf ms o) &&
      (List.range j).all fun i => match nth all i with
        | none => true
        | some x => (apartB all x o && !(loudB E x && loudB E o)) || bitB ms i j
def drawsC (E : Env) (ds : List (Nat × List Nat)) : Code → Bool
  | .region id ops true => match look ds id with | some ms => drawB E ops.toList ms | none => true
  | .seq a b => drawsC E ds a && drawsC E ds b
  | .cond _ a b => drawsC E ds a && drawsC E ds b
  | .block _ b => drawsC E ds b
  | .loop b => drawsC E ds b
  | _ => true
inductive Ex where
  | normal | exit (id : Nat) | ret
abbrev KE := Ex → VSlots → Rows → Prop
structure SIM (w0 : Start) (m0 mb : Mem) (qb : Loc) (n : Nat) (L : VSlots) (rows : Rows) (a : Act) (w : World) : Prop where
  ex : ∃ (R m : Mem) (q : Loc), Sit w0 m0 R m w ∧ RowsOK R m q rows ∧ (∀ t v, look L t = some v → VR m q v (a.tmps.getD t undef)) ∧ mb.Le m ∧ qb.Le q
  size : a.tmps.size = n
  defers : a.defers = []
/-- What is known said otherwise; the first `nb` rows stay where they are. -/
structure Wk (nb : Nat) (L : VSlots) (rows : Rows) (L' : VSlots) (rows' : Rows) : Prop where
  sim : ∀ w0 m0 mb (qb : Loc) n a w, (∀ r x, qb r = some x → r < nb) → SIM w0 m0 mb qb n L rows a w → SIM w0 m0 mb qb n L' rows' a w
inductive Loop (nb : Nat) (W : VSlots → Rows → KE → Prop) (L : VSlots) (rows : Rows) (K : KE) : Prop
  | mk {σ : Type} (S : σ → VSlots) (Rw : σ → Rows) (I : σ → Prop) (μ : σ → Nat) (s0 : σ) (h1 : Wk nb L rows (S s0) (Rw s0)) (h2 : I s0)
    (h3 : ∀ s, I s → W (S s) (Rw s) fun e L' rows' => match e with
      | .normal => ∃ s', Wk nb L' rows' (S s') (Rw s') ∧ I s' ∧ μ s' < μ s
      | .exit id => K (.exit id) L' rows'
      | .ret => K .ret L' rows')
def wpReg (E : Env) (call : CallT) (ds : List (Nat × List Nat)) (id : Nat) (ops : Array Oper) (dr : Bool) (L : VSlots) (rows : Rows) (K : VSlots → Rows → Prop) : Prop :=
  match dr with
  | false => wpOpsR E call false ops.toList ops.toList L rows K
  | true => match look ds id with
    | some ms => dOpsR E call ms ops.toList 0 ops.toList L rows [] [] K
    | none => False
/-! A region that only looks: what is owned is lent. -/
def flat1 : V → Bool
  | .int .. | .bool _ | .lit _ | .str _ => true
  | _ => false
def viewV (rows : Rows) (v v' : V) : Prop :=
  match v with
  | .own r => match nth rows r with
    | some (.row _ els) => match v' with
      | .sl enc l => els = l.map enc
      | _ => False
    | _ => False
  | .ptr r 0 o => match nth rows r with
    | some (.bx _ cells) => allPure cells = true ∧ v' = .elt (.agg cells) o
    | _ => False
  | v => v.pure = true ∧ v' = v
def viewSlots (rows : Rows) (L : VSlots) : VSlots → Prop
  | [] => True
  | (t, v') :: r => (match look L t with | some v => viewV rows v v' | none => False) ∧ viewSlots rows L r
def noD (t : Nat) : List Oper → Bool
  | [] => true
  | o :: r => match o.dst with
    | some d => match Nat.beq d t with | true => false | false => noD t r
    | none => noD t r
def backSlots (ops : List Oper) (L L' : VSlots) : VSlots → Prop
  | [] => True
  | (t, v) :: r => (match noD t ops with
    | true => look L t = some v
    | false => match look L' t with | some v0 => flat1 v0 = true ∧ v = v0 | none => False) ∧ backSlots ops L L' r
inductive Borrow (ops : List Oper) (W : VSlots → Rows → (VSlots → Rows → Prop) → Prop) (L : VSlots) (rows : Rows) (K : VSlots → Rows → Prop) : Prop
  | mk (Lb : VSlots) (hv : viewSlots rows L Lb) (h : W Lb [] fun L' rows' => ∃ L2, backSlots ops L L' L2 ∧ K L2 rows)
/-- Ways that come together: what they have alike. -/
inductive Join (nb : Nat) (L : VSlots) (A : (VSlots → Rows → Prop) → Prop) (B : VSlots → Rows → Prop) : Prop
  | mk {σ : Type} (S : σ → VSlots) (Rw : σ → Rows) (I : σ → Prop) (h1 : A fun L' rows' => ∃ s, Wk nb L' rows' (S s) (Rw s) ∧ I s) (h2 : ∀ s, I s → B (S s) (Rw s))
def hookAt (hooks : List Nat) : Code → Bool
  | .region id _ _ => memN id hooks
  | .seq a _ => hookAt hooks a
  | .block _ b => hookAt hooks b
  | _ => false
def wpC (E : Env) (call : CallT) (ds : List (Nat × List Nat)) (hooks : List Nat) (nb : Nat) : Code → VSlots → Rows → KE → Prop
  | .skip, L, rows, K => K .normal L rows
  | .region id ops dr, L, rows, K => match memN (Nat.add 100000 id) hooks with
    | false => wpReg E call ds id ops dr L rows fun L' rows' => K .normal L' rows'
    | true => Borrow ops.toList (wpReg E call ds id ops dr) L rows fun L' rows' => K .normal L' rows'
  | .seq a b, L, rows, K => match hookAt hooks b with
    | false => wpC E call ds hooks nb a L rows fun e L' rows' => match e with
      | .normal => wpC E call ds hooks nb b L' rows' K
      | .exit id => K (.exit id) L' rows'
      | .ret => K .ret L' rows'
    | true => Join nb L (fun N => wpC E call ds hooks nb a L rows fun e L' rows' => match e with
      | .normal => N L' rows'
      | .exit id => K (.exit id) L' rows'
      | .ret => K .ret L' rows') fun L' rows' => wpC E call ds hooks nb b L' rows' K
  | .cond c x y, L, rows, K => evO L c fun v => match v with
    | .lit true => wpC E call ds hooks nb x L rows K
    | .lit false => wpC E call ds hooks nb y L rows K
    | .bool t => ∀ b : Bool, t = b → match b with | true => wpC E call ds hooks nb x L rows K | false => wpC E call ds hooks nb y L rows K
    | _ => False
  | .block id b, L, rows, K => wpC E call ds hooks nb b L rows fun e L' rows' => match e with
    | .normal => K .normal L' rows'
    | .exit j => match Nat.beq j id with | true => K .normal L' rows' | false => K (.exit j) L' rows'
    | .ret => K .ret L' rows'
  | .loop b, L, rows, K => Loop nb (wpC E call ds hooks nb b) L rows K
  | .exit id, L, rows, K => K (.exit id) L rows
  | .ret, L, rows, K => K .ret L rows
  | _, _, _, _ => False
def wpCR (E : Env) (call : CallT) (ds : List (Nat × List Nat)) (hooks : List Nat) (nb : Nat) (c : Code) : VSlots → Rows → KE → Prop :=
  Code.rec (motive := fun _ => VSlots → Rows → KE → Prop)
    (fun L rows K => K .normal L rows)
    (fun id ops dr L rows K => match memN (Nat.add 100000 id) hooks with
      | false => wpReg E call ds id ops dr L rows fun L' rows' => K .normal L' rows'
      | true => Borrow ops.toList (wpReg E call ds id ops dr) L rows fun L' rows' => K .normal L' rows')
    (fun _ b iha ihb L rows K => match hookAt hooks b with
      | false => iha L rows fun e L' rows' => match e with
        | .normal => ihb L' rows' K
        | .exit id => K (.exit id) L' rows'
        | .ret => K .ret L' rows'
      | true => Join nb L (fun N => iha L rows fun e L' rows' => match e with
        | .normal => N L' rows'
        | .exit id => K (.exit id) L' rows'
        | .ret => K .ret L' rows') fun L' rows' => ihb L' rows' K)
    (fun c _ _ ihx ihy L rows K => evO L c fun v => match v with
      | .lit true => ihx L rows K
      | .lit false => ihy L rows K
      | .bool t => ∀ b : Bool, t = b → match b with | true => ihx L rows K | false => ihy L rows K
      | _ => False)
    (fun id _ ih L rows K => ih L rows fun e L' rows' => match e with
      | .normal => K .normal L' rows'
      | .exit j => match Nat.beq j id with | true => K .normal L' rows' | false => K (.exit j) L' rows'
      | .ret => K .ret L' rows')
    (fun _ ih L rows K => Loop nb ih L rows K)
    (fun _ _ _ _ _ _ _ _ _ => False)
    (fun id L rows K => K (.exit id) L rows)
    (fun _ _ _ _ _ => False)
    (fun _ _ _ _ => False)
    (fun _ _ _ _ => False)
    (fun L rows K => K .ret L rows)
    (fun _ _ _ _ => False) c
theorem wpCR_eq (E : Env) (call : CallT) (ds : List (Nat × List Nat)) (hooks : List Nat) (nb : Nat) : ∀ c, wpCR E call ds hooks nb c = wpC E call ds hooks nb c
  | .skip => rfl
  | .region .. => rfl
  | .seq a b => by
    have e1 := wpCR_eq E call ds hooks nb a
    have e2 := wpCR_eq E call ds hooks nb b
    funext L rows K
    unfold wpC
    rw [← e1, ← e2]
    rfl
  | .cond c a b => by
    have e1 := wpCR_eq E call ds hooks nb a
    have e2 := wpCR_eq E call ds hooks nb b
    funext L rows K
    unfold wpC
    rw [← e1, ← e2]
    rfl
  | .block id a => by
    have e1 := wpCR_eq E call ds hooks nb a
    funext L rows K
    unfold wpC
    rw [← e1]
    rfl
  | .loop a => by
    have e1 := wpCR_eq E call ds hooks nb a
    funext L rows K
    unfold wpC
    rw [← e1]
    rfl
  | .rangeFunc .. => rfl
  | .exit _ => rfl
  | .scope _ => rfl
  | .label _ => rfl
  | .goto _ => rfl
  | .ret => rfl
  | .refuse _ => rfl
def slotsV : Nat → List V → VSlots
  | _, [] => []
  | i, v :: r => (i, v) :: slotsV (i + 1) r
def resK (E : Env) : List ResultVar → VSlots → Rows → (List V → Prop) → Prop
  | [], _, _, k => k []
  | .tmp t :: r, L, rows, k => match look L t with | some v => resK E r L rows fun vs => k (v :: vs) | none => False
  | .cell c T :: r, L, rows, k => match look L c with | some a => loadO E T a rows fun v => resK E r L rows fun vs => k (v :: vs) | none => False
def pack : List V → V
  | [v] => v
  | vs => .tup vs
def wpFn (E : Env) (call : CallT) (fi : FnI) (args : List V) (rows : Rows) (k : V → Rows → Prop) : Prop :=
  match fi.fn.body, Nat.ble args.length fi.fn.ntmps with
  | none, _ => False
  | _, false => False
  | some c, true => wpCR E call fi.draws fi.hooks rows.length c (slotsV 0 args) rows fun e L rows' => match e with
    | .normal => resK E fi.fn.results.toList L rows' fun vs => k (pack vs) rows'
    | .ret => resK E fi.fn.results.toList L rows' fun vs => k (pack vs) rows'
    | .exit _ => False
/-! ### Procedures: the rows that they may see are lent -/
abbrev IxK := Nat → (Nat → Prop) → Prop
def posK (r : Nat) (k : Nat → Prop) (l : List Nat) : Nat → Prop :=
  List.rec (motive := fun _ => Nat → Prop) (fun _ => False) (fun x _ ih i => match Nat.beq x r with
    | true => numK i k
    | false => ih (i + 1)) l
def reA (F : IxK) (v : V) (k : V → Prop) : Prop := match v with
  | .own r => F r fun r' => k (.own r')
  | .ptr r i o => F r fun r' => k (.ptr r' i o)
  | .map r => F r fun r' => k (.map r')
  | .agg _ => False
  | .tup _ => False
  | .fn f cs => (match cs with | [] => k (.fn f []) | _ :: _ => False)
  | .elt x o => k (.elt x o)
  | .int q n => k (.int q n)
  | .bool b => k (.bool b)
  | .lit b => k (.lit b)
  | .str s => k (.str s)
  | .sl enc l => k (.sl enc l)
  | .nil => k .nil
  | .raw u => k (.raw u)
def reL (g : V → (V → Prop) → Prop) (vs : List V) : (List V → Prop) → Prop :=
  List.rec (motive := fun _ => (List V → Prop) → Prop) (fun k => k []) (fun v _ ih k => g v fun v' => ih fun r' => k (v' :: r')) vs
def reF (F : IxK) (v : V) (k : V → Prop) : Prop := match v with
  | .fn f cs => reL (reA F) cs fun cs' => k (.fn f cs')
  | v => reA F v k
def reV (F : IxK) (v : V) (k : V → Prop) : Prop := match v with
  | .agg cs => reL (reF F) cs fun cs' => k (.agg cs')
  | v => reF F v k
def reT (F : IxK) (v : V) (k : V → Prop) : Prop := match v with
  | .tup cs => reL (reV F) cs fun cs' => k (.tup cs')
  | v => reV F v k
def reRow (F : IxK) (x : Row) (k : Row → Prop) : Prop := match x with
  | .bx t cs => reL (reF F) cs fun cs' => k (.bx t cs')
  | .rowq _ _ => False
  | .pack _ _ => False
  | x => k x
def reRows (F : IxK) (rs : Rows) : (Rows → Prop) → Prop :=
  List.rec (motive := fun _ => (Rows → Prop) → Prop) (fun k => k []) (fun x _ ih k => reRow F x fun x' => ih fun r' => k (x' :: r')) rs
def addN (acc : List Nat) : V → List Nat
  | .own r => match memN r acc with | true => acc | false => acc ++ [r]
  | .ptr r _ _ => match memN r acc with | true => acc | false => acc ++ [r]
  | .map r => match memN r acc with | true => acc | false => acc ++ [r]
  | _ => acc
noncomputable def addL (g : List Nat → V → List Nat) (vs : List V) : List Nat → List Nat :=
  List.rec (motive := fun _ => List Nat → List Nat) (fun acc => acc) (fun v _ ih acc => ih (g acc v)) vs
noncomputable def addF (acc : List Nat) (v : V) : List Nat := match v with | .fn _ cs => addL addN cs acc | v => addN acc v
noncomputable def addV (acc : List Nat) (v : V) : List Nat := match v with | .agg cs => addL addF cs acc | v => addF acc v
noncomputable def addR (rows : Rows) (l : List Nat) : List Nat → List Nat :=
  List.rec (motive := fun _ => List Nat → List Nat) (fun acc => acc) (fun r _ ih acc => match nth rows r with
    | some (.bx _ cs) => ih (addL addF cs acc)
    | _ => ih acc) l
def listK (l : List Nat) : (List Nat → Prop) → Prop :=
  List.rec (motive := fun _ => (List Nat → Prop) → Prop) (fun k => k []) (fun x _ ih k => ih fun r => k (x :: r)) l
def reachK (args : List V) (rows : Rows) (k : List Nat → Prop) : Prop :=
  listK (addL addV args []) fun a => listK (addR rows a a) fun b => listK (addR rows b b) fun c => listK (addR rows c c) k
noncomputable def nodupB (l : List Nat) : Bool :=
  List.rec (motive := fun _ => Bool) true (fun x r ih => match memN x r with | true => false | false => ih) l
def selRowsK (rows : Rows) (sel : List Nat) : (Rows → Prop) → Prop :=
  List.rec (motive := fun _ => (Rows → Prop) → Prop) (fun k => k []) (fun r _ ih k => match nth rows r with
    | some x => ih fun rs => k (x :: rs)
    | none => False) sel
def mergeK (sel : List Nat) : Rows → Rows → (Rows → Prop) → Prop :=
  List.rec (motive := fun _ => Rows → Rows → (Rows → Prop) → Prop) (fun ys rows k => appK rows ys k) (fun r _ ih ys rows k => match ys with
    | [] => False
    | y :: ys => setK rows r y fun rows' => ih ys rows' k) sel
def backF (sel : List Nat) (n : Nat) : IxK := fun i k => match nth sel i with
  | some r => k r
  | none => numK (Nat.add n (Nat.sub i sel.length)) k
def procO0 (T : PSpec) (args : List V) (rows : Rows) (k : V → Rows → Prop) : Prop :=
  reachK args rows fun sel => match nodupB sel with
    | false => False
    | true => reL (reV fun r k => posK r k sel 0) args fun args' => selRowsK rows sel fun rs => reRows (fun r k => posK r k sel 0) rs fun rows0 =>
      T args' rows0 fun v rows1 => reT (backF sel rows.length) v fun v' => reRows (backF sel rows.length) rows1 fun rows1' => mergeK sel rows1' rows fun rows' => k v' rows'
def procO (T : PSpec) (args : List V) (rows : Rows) (k : V → Rows → Prop) : Prop := fzDS args rows fun as rows' => procO0 T as rows' k
def callN (E : Env) : Nat → CallT
  | n, f, args, rows, k => match look E.lib f with
    | some T => fzLA args rows fun as rows' => T as fun r => k r rows'
    | none => match look E.prims f with
      | some T => procO T args rows k
      | none => match n with
        | 0 => False
        | n + 1 => match look E.fns f with
          | some fi => (match fi.spec with
          | some T => T args rows k
          | none => match fi.frz with
          | false => wpFn E (callN E n) fi args rows k
          | true => fzS args rows fun as rows' => wpFn E (callN E n) fi as rows' k)
          | none => False
def dstsL (n : Nat) : List Oper → Bool
  | [] => true
  | o :: r => (match o.dst with | some d => Nat.blt d n | none => true) && dstsL n r
/-- All temporaries are there. -/
def dstsC (n : Nat) : Code → Bool
  | .region _ ops _ => dstsL n ops.toList
  | .seq a b => dstsC n a && dstsC n b
  | .cond _ a b => dstsC n a && dstsC n b
  | .block _ b => dstsC n b
  | .loop b => dstsC n b
  | _ => true
/-- A function of what stays, that makes something that stays. -/
def Pure (P : Program) (f : FuncId) (T : Spec) : Prop :=
  ∀ (w : World) (m : Mem) (args : List V) (us : List Value) (K : V → Prop), Sub m w → Glob.mem.Le m → (args.length = us.length ∧ ∀ (i : Nat) v u, args[i]? = some v → us[i]? = some u → VR m noLoc v u) → T args K →
    Calls P f us.toArray w fun e w' => ∃ u r, e = .returned u ∧ Bel [] w w' ∧ K r ∧ VR (grow m w w') noLoc r u
end Gv
end PartV2
section PartV3
namespace Gv
open Go Go.RowKit Gw
variable [Glob]

/-! ### What the helpers say -/
theorem nth_eq.{u} {α : Type u} : ∀ (l : List α) (i : Nat), nth l i = l[i]?
  | [], i => by simp [nth]
  | x :: r, 0 => by simp [nth]
  | x :: r, i + 1 => by simp [nth, nth_eq r i]
theorem dropL_eq.{u} {α : Type u} : ∀ (n : Nat) (l : List α), dropL n l = l.drop n
  | 0, l => by simp [dropL]
  | n + 1, [] => by simp [dropL]
  | n + 1, x :: r => by simp [dropL, dropL_eq n r]
theorem numK_eq (n : Nat) (k : Nat → Prop) (h : numK n k) : k n := by
  unfold numK at h
  split at h <;> exact h
theorem takeK_ok : ∀ (n : Nat) (l : List V) (k : List V → Prop), takeK n l k → n ≤ l.length ∧ k (l.take n)
  | 0, l, k, h => ⟨by omega, by simpa [takeK] using h⟩
  | n + 1, [], k, h => by simp [takeK] at h
  | n + 1, v :: r, k, h => by
    obtain ⟨h1, h2⟩ := takeK_ok n r _ h
    exact ⟨by simp; omega, by simpa using h2⟩
def putLL (l : List V) (o : Nat) (vs : List V) : List V := l.take o ++ vs ++ l.drop (o + vs.length)
theorem storeK_ok : ∀ (l : List V) (o : Nat) (vs : List V) (k : List V → Prop), storeK l o vs k → o + vs.length ≤ l.length ∧ k (putLL l o vs)
  | c :: r, n + 1, vs, k, h => by
    obtain ⟨h1, h2⟩ := storeK_ok r n vs _ h
    refine ⟨by simp; omega, ?_⟩
    have : putLL (c :: r) (n + 1) vs = c :: putLL r n vs := by
      unfold putLL; rw [show n + 1 + vs.length = (n + vs.length) + 1 by omega]; simp
    rw [this]; exact h2
  | [], 0, [], k, h => ⟨by simp, by simpa [storeK, putLL] using h⟩
  | c :: r, 0, [], k, h => ⟨by simp, by simpa [storeK, putLL] using h⟩
  | c :: r, 0, v :: vs, k, h => by
    obtain ⟨h1, h2⟩ := storeK_ok r 0 vs _ h
    refine ⟨by simp at *; omega, ?_⟩
    simpa [putLL] using h2
  | [], n + 1, vs, k, h => by simp [storeK] at h
  | [], 0, v :: vs, k, h => by simp [storeK] at h
theorem setK_ok : ∀ (l : Rows) (i : Nat) (y : Row) (k : Rows → Prop), setK l i y k → i < l.length ∧ k (l.set i y)
  | x :: r, 0, y, k, h => ⟨by simp, by simpa [setK] using h⟩
  | x :: r, n + 1, y, k, h => by
    obtain ⟨h1, h2⟩ := setK_ok r n y _ h
    exact ⟨by simp; omega, by simpa using h2⟩
  | [], n, y, k, h => by simp [setK] at h
theorem pushK_ok : ∀ (l : Rows) (n : Nat) (y : Row) (k : Nat → Rows → Prop), pushK n l y k → k (n + l.length) (l ++ [y])
  | [], n, y, k, h => numK_eq n (fun n => k n [y]) h
  | x :: r, n, y, k, h => by
    have := pushK_ok r (n + 1) y _ h
    simpa [Nat.add_assoc, Nat.add_comm 1] using this
theorem appK_ok.{u} {α : Type u} : ∀ (l l' : List α) (k : List α → Prop), appK l l' k → k (l ++ l')
  | [], l', k, h => h
  | x :: r, l', k, h => by simpa using appK_ok r l' _ h
theorem allFlat_ok : ∀ (l : List V), allFlat l = true → ∀ v ∈ l, v.flat = true
  | [], _, v, hv => by cases hv
  | x :: r, h, v, hv => by
    unfold allFlat at h
    cases hx : x.flat with
    | false => rw [hx] at h; cases h
    | true =>
      rw [hx] at h
      rcases List.mem_cons.1 hv with rfl | hv
      · exact hx
      · exact allFlat_ok r h v hv
theorem allPure_ok : ∀ (l : List V), allPure l = true → ∀ v ∈ l, v.pure = true
  | [], _, v, hv => by cases hv
  | x :: r, h, v, hv => by
    unfold allPure at h
    cases hx : x.pure with
    | false => rw [hx] at h; cases h
    | true =>
      rw [hx] at h
      rcases List.mem_cons.1 hv with rfl | hv
      · exact hx
      · exact allPure_ok r h v hv
/-- Values, one by one. -/
structure VRL (m : Mem) (q : Loc) (vs : List V) (us : List Value) : Prop where
  len : vs.length = us.length
  el : ∀ (i : Nat) v u, vs[i]? = some v → us[i]? = some u → VR m q v u
theorem VRL.nil {m : Mem} {q : Loc} : VRL m q [] [] := ⟨rfl, fun i v u h => by simp at h⟩
theorem VRL.cons {m : Mem} {q : Loc} {v : V} {u : Value} {vs : List V} {us : List Value} (h : VR m q v u) (k : VRL m q vs us) : VRL m q (v :: vs) (u :: us) :=
  ⟨by simp [k.len], fun i v' u' h1 h2 => by
    cases i with
    | zero => simp at h1 h2; subst h1 h2; exact h
    | succ i => exact k.el i v' u' (by simpa using h1) (by simpa using h2)⟩
theorem VRL.up {m m' : Mem} {q q' : Loc} {vs : List V} {us : List Value} (h : VRL m q vs us) (hm : m.Le m') (hq : q.Le q') : VRL m' q' vs us := ⟨h.len, fun i v u h1 h2 => (h.el i v u h1 h2).up hm hq⟩
theorem VRL.app {m : Mem} {q : Loc} {vs ws : List V} {us xs : List Value} (h : VRL m q vs us) (k : VRL m q ws xs) : VRL m q (vs ++ ws) (us ++ xs) := by
  refine ⟨by simp [h.len, k.len], fun i v u h1 h2 => ?_⟩
  by_cases hi : i < vs.length
  · rw [List.getElem?_append_left hi] at h1
    rw [List.getElem?_append_left (by rw [← h.len]; exact hi)] at h2
    exact h.el i v u h1 h2
  · rw [List.getElem?_append_right (by omega)] at h1
    rw [List.getElem?_append_right (by rw [← h.len]; omega), ← h.len] at h2
    exact k.el _ v u h1 h2
section
variable {m : Mem} {q : Loc}
theorem const1_ok {c : Value} {v : V} (h : const1 c = some v) : VR m q v c := by
  unfold const1 at h
  split at h
  · cases h; exact .int
  · cases h; exact .lit
  · rename_i s
    split at h
    · rename_i hb
      cases h
      have := VR.str (m := m) (q := q) (s := s.data.toList) (by simpa [Nat.ble_eq] using hb)
      have e : Gw.str s.data.toList = .string s := by simp [Gw.str]
      rw [e] at this; exact this
    · cases h
  · cases h; exact .nil
  · cases h
  · cases h
  · cases h; exact .raw
theorem constL_ok : ∀ (cs : List Value) (k : List V → Prop), constL cs k → ∃ vs, k vs ∧ VRL m q vs cs
  | [], k, h => ⟨[], h, VRL.nil⟩
  | c :: r, k, h => by
    unfold constL at h
    cases hc : const1 c with
    | none => rw [hc] at h; exact h.elim
    | some x =>
      rw [hc] at h
      obtain ⟨vs, h1, h2⟩ := constL_ok r _ h
      exact ⟨x :: vs, h1, VRL.cons (const1_ok hc) h2⟩
theorem constL_flat : ∀ (cs : List Value) (k : List V → Prop), constL cs k → ∃ vs, k vs ∧ VRL m q vs cs ∧ ∀ u ∈ cs, u.oneCell' = true
  | [], k, h => ⟨[], h, VRL.nil, fun u hu => by cases hu⟩
  | c :: r, k, h => by
    unfold constL at h
    cases hc : const1 c with
    | none => rw [hc] at h; exact h.elim
    | some x =>
      rw [hc] at h
      obtain ⟨vs, h1, h2, h3⟩ := constL_flat r _ h
      refine ⟨x :: vs, h1, VRL.cons (const1_ok hc) h2, fun u hu => ?_⟩
      rcases List.mem_cons.1 hu with rfl | hu
      · unfold const1 at hc
        split at hc <;> first | rfl | (cases hc; done) | skip
        rename_i h1 h2 h3 h4 h5 h6
        cases u <;> first | rfl | (exact absurd rfl (h5 _)) | (exact absurd rfl (h6 _))
      · exact h3 u hu
theorem constK_ok {c : Value} {k : V → Prop} (h : constK c k) : ∃ v, k v ∧ VR m q v c := by
  unfold constK at h
  split at h
  · rename_i cs
    obtain ⟨vs, h1, h2⟩ := constL_ok (m := m) (q := q) _ _ h
    refine ⟨_, h1, ?_⟩
    have := VR.agg h2.len h2.el
    simpa using this
  · split at h
    · rename_i hc; exact ⟨_, h, const1_ok hc⟩
    · exact h.elim
/-- The slots of an activation are told. -/
def SlotsR (m : Mem) (q : Loc) (L : VSlots) (a : Act) : Prop := ∀ t v, look L t = some v → VR m q v (a.tmps.getD t undef)
theorem SlotsR.up {m' : Mem} {q' : Loc} {L : VSlots} {a : Act} (h : SlotsR m q L a) (hm : m.Le m') (hq : q.Le q') : SlotsR m' q' L a := fun t v e => (h t v e).up hm hq
theorem SlotsR.put {L : VSlots} {a : Act} {d : Nat} {v : V} {u : Value} (h : SlotsR m q L a) (hd : d < a.tmps.size) (hv : VR m q v u) : SlotsR m q ((d, v) :: L) (a.put (some d) u) := fun t x e => by
  unfold look at e
  split at e
  · rename_i e1
    have e2 : d = t := Nat.eq_of_beq_eq_true e1
    subst e2
    cases e
    simpa [Act.put, Array.getD_eq_getD_getElem?, hd] using hv
  · rename_i e1
    have e2 : d ≠ t := fun h => by subst h; simp at e1
    have := h t x e
    simpa [Act.put, Array.getD_eq_getD_getElem?, e2] using this
theorem evO_ok {L : VSlots} {a : Act} {x : Operand} {k : V → Prop} (S : SlotsR m q L a) (h : evO L x k) : ∃ v, k v ∧ VR m q v (a.eval x) := by
  unfold evO at h
  split at h
  · rename_i t
    split at h
    · rename_i v hv; exact ⟨v, h, S _ _ hv⟩
    · exact h.elim
  · exact constK_ok h
  · rename_i f
    exact ⟨_, h, VR.fn (cs := []) (us := []) rfl fun i v u h => by simp at h⟩
  · exact h.elim
theorem evL_ok {L : VSlots} {a : Act} (S : SlotsR m q L a) : ∀ (xs : List Operand) (k : List V → Prop), evL L xs k → ∃ vs, k vs ∧ VRL m q vs (xs.map a.eval)
  | [], k, h => ⟨[], h, VRL.nil⟩
  | x :: r, k, h => by
    obtain ⟨v, h1, h2⟩ := evO_ok S h
    obtain ⟨vs, h3, h4⟩ := evL_ok S r _ h1
    exact ⟨v :: vs, h3, VRL.cons h2 h4⟩
end

/-! ### Configurations -/
structure Cf (w0 : Start) (m0 : Mem) (rows : Rows) (R m : Mem) (q : Loc) (w : World) : Prop where
  sit : Sit w0 m0 R m w
  rok : RowsOK R m q rows
def After (w0 : Start) (m0 m : Mem) (q : Loc) (K : V → Rows → Prop) (u : Value) (w' : World) : Prop :=
  ∃ v rows' R' m' q', K v rows' ∧ Cf w0 m0 rows' R' m' q' w' ∧ m.Le m' ∧ q.Le q' ∧ VR m' q' v u
/-- What a function does to rows. -/
def PrimOK (P : Program) (f : FuncId) (T : PSpec) : Prop :=
  ∀ w0 m0 args rows k R m q w us, Cf w0 m0 rows R m q w → VRL m q args us → T args rows k → callable P f = true ∧ Calls P f us.toArray w fun e w' => ∃ u, e = .returned u ∧ After w0 m0 m q k u w'
/-! ### The table of types -/
def kindB : TK → TypeDesc → Bool
  | .other, _ => true
  | .bool, .bool => true
  | .str, .string => true
  | .int k, .int k' => k == k'
  | .slice E, .slice E' => Nat.beq E E'
  | .struct fs, .struct fields => fields.toList.map (fun f => (f.type, f.offset)) == fs
  | .array n E, .array n' E' => Nat.beq n n' && Nat.beq E E'
  | .map K E, .map K' E' => Nat.beq K K' && Nat.beq E E'
  | .iface, .interface _ => true
  | _, _ => false
/-- A function of the table. -/
structure FnOK (E : Env) (f : FuncId) (fi : FnI) : Prop where
  fn : E.P.funcs[f]? = some fi.fn
  dsts : (match fi.fn.body with | some c => dstsC fi.fn.ntmps c | none => true) = true
  draws : (match fi.fn.body with | some c => drawsC E fi.draws c | none => true) = true
structure EnvOK (E : Env) : Prop where
  mixed : E.P.follows .mixedOrders = true
  tys : ∀ T i, look E.tys T = some i → tyOf E.P T = some (i.zero, i.size, i.bytes, i.agg) ∧ i.zero.cells.size = i.size ∧ ∃ d, E.P.underlying T = some d ∧ kindB i.kind d = true
  lib : ∀ f T, look E.lib f = some T → callable E.P f = true ∧ Pure E.P f T
  fns : ∀ f fi, look E.fns f = some fi → callable E.P f = true ∧ ((fi.spec = none ∧ FnOK E f fi) ∨ ∃ T, fi.spec = some T ∧ PrimOK E.P f T)
  prims : ∀ f T, look E.prims f = some T → PrimOK E.P f T
  eqs : ∀ T ks, look E.eqs T = some ks → ks = [] ∨ flatB E.P T ks = true
theorem look_mem.{u} {α : Type u} : ∀ {l : List (Nat × α)} {t : Nat} {v : α}, look l t = some v → (t, v) ∈ l
  | [], t, v, h => by simp [look] at h
  | (k, x) :: r, t, v, h => by
    unfold look at h
    split at h
    · rename_i e
      have : k = t := Nat.eq_of_beq_eq_true e
      subst this; cases h; simp
    · exact List.mem_cons_of_mem _ (look_mem h)
theorem tys_ok {P : Program} {tys : List (Nat × TI)} (h : tys.map (fun p => (tyOf P p.1, (Nat.beq p.2.zero.cells.size p.2.size, (P.underlying p.1).map (kindB p.2.kind)))) = tys.map (fun p => (some (p.2.zero, p.2.size, p.2.bytes, p.2.agg), (true, some true)))) :
    ∀ T i, look tys T = some i → tyOf P T = some (i.zero, i.size, i.bytes, i.agg) ∧ i.zero.cells.size = i.size ∧ ∃ d, P.underlying T = some d ∧ kindB i.kind d = true := fun T i hl => by
  have hm := look_mem hl
  have := List.map_inj_left.1 h (T, i) hm
  simp only [Prod.mk.injEq, Option.map_eq_some_iff] at this
  exact ⟨this.1, Nat.eq_of_beq_eq_true this.2.1, this.2.2⟩
theorem tiK_ok {E : Env} (H : EnvOK E) {T : Nat} {k : TI → Prop} (h : tiK E T k) : ∃ i, k i ∧ tyOf E.P T = some (i.zero, i.size, i.bytes, i.agg) ∧ i.zero.cells.size = i.size ∧ ∃ d, E.P.underlying T = some d ∧ kindB i.kind d = true := by
  unfold tiK at h
  split at h
  · rename_i i hi; exact ⟨i, h, H.tys T i hi⟩
  · exact h.elim
theorem kind_slice {E : Nat} {d : TypeDesc} (h : kindB (.slice E) d = true) : d = .slice E := by
  cases d <;> first | (simp [kindB] at h; done) | (have := Nat.eq_of_beq_eq_true h; subst this; rfl)
theorem kind_str {d : TypeDesc} (h : kindB .str d = true) : d = .string := by cases d <;> first | rfl | simp [kindB] at h
theorem kind_bool {d : TypeDesc} (h : kindB .bool d = true) : d = .bool := by cases d <;> first | rfl | simp [kindB] at h
theorem kind_int {k : IntKind} {d : TypeDesc} (h : kindB (.int k) d = true) : d = .int k := by
  cases d <;> first | (simp [kindB] at h; done) | skip
  simp [kindB] at h; subst h; rfl
theorem kind_iface {d : TypeDesc} (h : kindB .iface d = true) : ∃ ms, d = .interface ms := by cases d <;> first | exact ⟨_, rfl⟩ | simp [kindB] at h
theorem kind_array {n E : Nat} {d : TypeDesc} (h : kindB (.array n E) d = true) : d = .array n E := by
  cases d <;> first | (simp [kindB] at h; done) | skip
  simp only [kindB, Bool.and_eq_true] at h
  have h1 := Nat.eq_of_beq_eq_true h.1
  have h2 := Nat.eq_of_beq_eq_true h.2
  subst h1 h2
  rfl
theorem kind_struct {fs : List (Nat × Nat)} {d : TypeDesc} (h : kindB (.struct fs) d = true) : ∃ fields : Array Field, d = .struct fields ∧ fields.toList.map (fun f => (f.type, f.offset)) = fs := by
  cases d <;> first | (simp [kindB] at h; done) | skip
  rename_i fields
  exact ⟨fields, rfl, by simpa [kindB] using h⟩

section
variable {w0 : Start} {w w' : World} {m0 R m : Mem} {q : Loc} {rows : Rows} {K : V → Rows → Prop} {u : Value}
theorem After.same (C : Cf w0 m0 rows R m q w) {v : V} (hK : K v rows) (hv : VR m q v u) : After w0 m0 m q K u w := ⟨v, rows, R, m, q, hK, C, Mem.Le.refl m, Loc.Le.refl q, hv⟩
theorem After.mono {K' : V → Rows → Prop} (h : After w0 m0 m q K u w') (hK : ∀ v r, K v r → K' v r) : After w0 m0 m q K' u w' :=
  let ⟨v, rows', R', m', q', h1, h2, h3, h4, h5⟩ := h; ⟨v, rows', R', m', q', hK _ _ h1, h2, h3, h4, h5⟩
/-- The world goes on: what was there stays. -/
theorem Cf.step (C : Cf w0 m0 rows R m q w) (h : Bel [] w w') : Cf w0 m0 rows R m q w' := ⟨C.sit.step h, C.rok⟩
theorem Cf.grow (C : Cf w0 m0 rows R m q w) (h : Bel [] w w') : Cf w0 m0 rows R (grow m w w') q w' :=
  ⟨C.sit.grow h, ⟨C.rok.fresh, fun r x e => (C.rok.row r x e).up (C.sit.mem.le_grow w') (Loc.Le.refl q) fun _ _ _ => rfl, C.rok.apart⟩⟩
/-- Cells in memory. -/
def At (m : Mem) (q : Loc) (w : World) (b base : Nat) (cells : List V) : Prop := ∀ (j : Nat) v, cells[j]? = some v → ∃ u, w.cell? ⟨b, base + j, none⟩ = some u ∧ VR m q v u
theorem cell_of {w : World} {b o : Nat} {arr : Array Value} {T : TypeId} {fz : Nat × Nat} {u : Value} (h : w.heap[b]? = some (.cells arr T fz)) (hu : arr[o]? = some u) : w.cell? ⟨b, o, none⟩ = some u := by
  simp only [World.cell?, h]
  simpa using hu
/-- Behind an address: cells. -/
theorem Cf.elt (C : Cf w0 m0 rows R m q w) {x : V} {o : Nat} {u : Value} (h : VR m q (.elt x o) u) : ∃ b base, u = .pointer (some ⟨b, base + o, none⟩) ∧ At m q w b base x.cells := by
  cases h with
  | @elt _ _ _ b off arr T fz us h3 h5 h6 =>
    exact ⟨b, off, rfl, fun j v e => ⟨us j, cell_of (C.sit.mem _ _ h3) (h5 j v e).1, (h6 j v e).up (Mem.Le.refl m) (noLoc_le q)⟩⟩
theorem Cf.ptr_box (C : Cf w0 m0 rows R m q w) {r o : Nat} {cells : List V} {u : Value} (h : VR m q (.ptr r 0 o) u) {t : Option Nat} (hr : nth rows r = some (.bx t cells)) : ∃ b, u = .pointer (some ⟨b, 0 + o, none⟩) ∧ At m q w b 0 cells := by
  rw [nth_eq] at hr
  obtain ⟨b, arr, T, h1, h2, -, h3⟩ := C.rok.row r _ hr
  cases h with
  | @ptr _ _ _ _ b' len cap k h =>
    rw [h1] at h; cases h
    refine ⟨b, by simp, fun j v e => ?_⟩
    obtain ⟨u, e1, e2, e3⟩ := h3.2 j v e
    exact ⟨u, cell_of (C.sit.own _ _ h2).2.1 (by simpa using e1), e3⟩
theorem Cf.ptr_row (C : Cf w0 m0 rows R m q w) {r i o k : Nat} {els : List V} {u : Value} {x : V} (h : VR m q (.ptr r i o) u) (hr : nth rows r = some (.row k els)) (hx : els[i]? = some x) : ∃ b, u = .pointer (some ⟨b, i * k + o, none⟩) ∧ At m q w b (i * k) x.cells := by
  rw [nth_eq] at hr
  obtain ⟨ob, cap, h1, h2, h3, h4, h5⟩ := C.rok.row r _ hr
  cases h with
  | @ptr _ _ _ _ b len cap' k' h =>
    rw [h1] at h; cases h
    obtain ⟨arr, T, fz, h6, h7, h8, h9⟩ := h5 b rfl
    refine ⟨b, rfl, fun j v e => ?_⟩
    obtain ⟨u, e1, e2, e3⟩ := (h8 i x hx).2 j v e
    exact ⟨u, cell_of (C.sit.own _ _ h6).2.1 e1, e3.up (Mem.Le.refl m) (noLoc_le q)⟩
theorem Cf.ptr_rowq (C : Cf w0 m0 rows R m q w) {r i o k : Nat} {els : List V} {u : Value} {x : V} (h : VR m q (.ptr r i o) u) (hr : nth rows r = some (.rowq k els)) (hx : els[i]? = some x) : ∃ b, u = .pointer (some ⟨b, i * k + o, none⟩) ∧ At m q w b (i * k) x.cells := by
  rw [nth_eq] at hr
  obtain ⟨ob, cap, h1, h2, h3, h4, h5⟩ := C.rok.row r _ hr
  cases h with
  | @ptr _ _ _ _ b len cap' k' h =>
    rw [h1] at h; cases h
    obtain ⟨arr, T, fz, h6, h7, h8, h9⟩ := h5 b rfl
    refine ⟨b, rfl, fun j v e => ?_⟩
    obtain ⟨u, e1, e2, e3⟩ := (h8 i x hx).2 j v e
    exact ⟨u, cell_of (C.sit.own _ _ h6).2.1 e1, e3⟩
theorem Cf.ptr_fz (C : Cf w0 m0 rows R m q w) {r i o : Nat} {α : Type} {enc : α → V} {l : List α} {u : Value} (h : VR m q (.ptr r i o) u) (hr : nth rows r = some (.fz enc l)) (hi : i < l.length) : ∃ b base, u = .pointer (some ⟨b, base + o, none⟩) ∧ At m q w b base (enc l[i]).cells := by
  rw [nth_eq] at hr
  obtain ⟨ob, cap, k, h1, h2, h0⟩ := C.rok.row r _ hr
  cases h with
  | @ptr _ _ _ _ b len cap' k' h =>
    rw [h1] at h; cases h
    generalize hu : Value.slice (row0 (some b)) l.length cap = uu at h2
    cases h2 with
    | sl0 => simp at hi
    | @sl _ _ _ _ b' off arr T fz cap' kk us g1 g2 g3 g4 g5 g6 =>
      simp only [row0, Option.map_some, Value.slice.injEq, Option.some.injEq, Addr.mk.injEq, true_and] at hu
      obtain ⟨⟨rfl, rfl, -⟩, rfl⟩ := hu
      have e : kk = k := (g4 i hi).symm.trans (h0 i hi)
      subst e
      refine ⟨b, i * kk, rfl, fun j v e => ⟨us i j, cell_of (C.sit.mem _ _ g3) ?_, (g6 i hi j v e).up (Mem.Le.refl m) (noLoc_le q)⟩⟩
      have := (g5 i hi j v e).1
      rwa [Nat.zero_add] at this
theorem ld_ok {P : Program} {T : TypeId} {z : Value} {sz by_ b base o : Nat} {agg : Bool} {cells : List V} {k : V → Prop} (hT : tyOf P T = some (z, sz, by_, agg)) (hA : At m q w b base cells) (h : loadK agg sz cells o k) :
    ∃ v u, k v ∧ (loadVar T ⟨b, base + o, none⟩).run P w = .ok u w ∧ VR m q v u := by
  unfold loadK at h
  cases agg with
  | false =>
    simp only at h
    split at h
    · rename_i v hv
      rw [nth_eq] at hv
      obtain ⟨u, h1, h2⟩ := hA _ _ hv
      exact ⟨v, u, h, ld1 hT h1, h2⟩
    · exact h.elim
  | true =>
    obtain ⟨h1, h2⟩ := takeK_ok _ _ _ h
    rw [dropL_eq] at h1 h2
    have key : ∀ j, j < sz → ∃ v u, ((cells.drop o).take sz)[j]? = some v ∧ w.cell? ⟨b, base + o + j, none⟩ = some u ∧ VR m q v u := fun j hj => by
      have hlt : o + j < cells.length := by simp at h1; omega
      obtain ⟨u, h3, h4⟩ := hA (o + j) cells[o + j] (List.getElem?_eq_getElem hlt)
      refine ⟨cells[o + j], u, ?_, by rw [← h3, Nat.add_assoc], h4⟩
      rw [List.getElem?_take, if_pos hj, List.getElem?_drop, List.getElem?_eq_getElem hlt]
    let us := (List.range sz).map fun j => (w.cell? ⟨b, base + o + j, none⟩).getD undef
    have hus : ∀ j u, us[j]? = some u → j < sz ∧ w.cell? ⟨b, base + o + j, none⟩ = some u := fun j u hu => by
      have hj : j < sz := by
        rcases Nat.lt_or_ge j sz with h | h
        · exact h
        · rw [List.getElem?_eq_none (by simp [us]; omega)] at hu; cases hu
      obtain ⟨v, u', e1, e2, e3⟩ := key j hj
      refine ⟨hj, ?_⟩
      simp [us, hj, e2] at hu
      rw [e2, hu]
    refine ⟨_, _, h2, ldk (cs := us) hT (by simp [us]) (fun j v hv => by rw [add_none]; exact (hus j v hv).2), VR.agg (by simp [us]; simp at h1; omega) fun j v u hv hu => ?_⟩
    obtain ⟨hj, h5⟩ := hus j u hu
    obtain ⟨v', u', e1, e2, e3⟩ := key j hj
    rw [e1] at hv; cases hv
    rw [e2] at h5; cases h5
    exact e3
theorem loadO_ok {E : Env} (H : EnvOK E) (C : Cf w0 m0 rows R m q w) {T : Nat} {a : V} {ua : Value} {k : V → Prop} (ha : VR m q a ua) (h : loadO E T a rows k) :
    ∃ v u p, k v ∧ ua = .pointer (some p) ∧ (loadVar T p).run E.P w = .ok u w ∧ VR m q v u := by
  unfold loadO at h
  obtain ⟨i, h, hT, -⟩ := tiK_ok H h
  split at h
  · rename_i x o
    obtain ⟨b, base, rfl, hA⟩ := C.elt ha
    obtain ⟨v, u, h1, h2, h3⟩ := ld_ok hT hA h
    exact ⟨v, u, _, h1, rfl, h2, h3⟩
  · rename_i r j o
    split at h
    · rename_i cells hr
      split at h
      · obtain ⟨b, rfl, hA⟩ := C.ptr_box ha hr
        obtain ⟨v, u, h1, h2, h3⟩ := ld_ok hT hA h
        exact ⟨v, u, _, h1, rfl, h2, h3⟩
      · exact h.elim
    · rename_i k' els hr
      obtain ⟨x, hx, h⟩ := h
      obtain ⟨b, rfl, hA⟩ := C.ptr_row ha hr hx
      obtain ⟨v, u, h1, h2, h3⟩ := ld_ok hT hA h
      exact ⟨v, u, _, h1, rfl, h2, h3⟩
    · rename_i k' els hr
      obtain ⟨x, hx, h⟩ := h
      obtain ⟨b, rfl, hA⟩ := C.ptr_rowq ha hr hx
      obtain ⟨v, u, h1, h2, h3⟩ := ld_ok hT hA h
      exact ⟨v, u, _, h1, rfl, h2, h3⟩
    · rename_i α enc l hr
      obtain ⟨hj, h⟩ := h
      obtain ⟨b, base, rfl, hA⟩ := C.ptr_fz ha hr hj
      obtain ⟨v, u, h1, h2, h3⟩ := ld_ok hT hA h
      exact ⟨v, u, _, h1, rfl, h2, h3⟩
    · exact h.elim
  · exact h.elim
theorem oneCell_cells {u : Value} (h : u.oneCell' = true) : u.cells = #[u] := by cases u <;> first | rfl | cases h
/-- A value's cells. -/
theorem cells_ok {v : V} {u : Value} (h : VR m q v u) (hf : allFlat v.cells = true) : ∃ us : List Value, u.cells = us.toArray ∧ VRL m q v.cells us ∧ ∀ x ∈ us, x.oneCell' = true := by
  have hfl := allFlat_ok _ hf
  by_cases ha : ∃ cs, v = .agg cs
  · obtain ⟨cs, rfl⟩ := ha
    cases h with
    | @agg _ _ us hl he =>
      refine ⟨us, rfl, ⟨hl, he⟩, fun x hx => ?_⟩
      obtain ⟨i, hi⟩ := List.getElem?_of_mem hx
      have hlt : i < cs.length := by have := (List.getElem?_eq_some_iff.1 hi).1; omega
      exact (he i cs[i] x (List.getElem?_eq_getElem hlt) hi).one (hfl _ (List.getElem_mem hlt))
  · have hc : v.cells = [v] := by cases v <;> first | rfl | exact absurd ⟨_, rfl⟩ ha
    rw [hc] at hfl
    have h1 := h.one (hfl v (by simp))
    refine ⟨[u], oneCell_cells h1, (by rw [hc]; exact VRL.cons h VRL.nil), fun x hx => by simp at hx; subst hx; exact h1⟩
end
end Gv
end PartV3
