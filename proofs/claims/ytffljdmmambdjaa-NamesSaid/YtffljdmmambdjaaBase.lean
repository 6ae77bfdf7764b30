/- What the walks stand on: slots, worlds, what stays, what an operation comes to. -/
import Derived.Below
import Derived.ChangeShapes
import Derived.Deep.Quiet
import Derived.Deep.RegionHeld3
import Derived.Deep.Slices
import Derived.KernelRfl
import Derived.StillTail
import Derived.WalkKit
set_option linter.unusedVariables false
set_option linter.unusedSimpArgs false
set_option linter.unusedSectionVars false
namespace Gw
open Go Go.RowKit

abbrev Slots := List (Nat × Value)
def lk : Slots → Nat → Option Value
  | [], _ => none
  | (k, v) :: r, t => match Nat.beq k t with | true => some v | false => lk r t
def ev (L : Slots) : Operand → Option Value
  | .tmp t => lk L t
  | .const v => some v
  | .global g => some (.pointer (some ⟨g, 0, none⟩))
  | .func f => some (.func (.func f) #[] #[])
/-- The known slots of an activation. -/
structure Has (n : Nat) (L : Slots) (a : Act) : Prop where
  size : a.tmps.size = n
  defers : a.defers = []
  get : ∀ t v, lk L t = some v → a.tmps.getD t undef = v

section
variable {n : Nat} {L : Slots} {a : Act} {x : Operand} {v : Value} {d : Nat}
theorem Has.ev (H : Has n L a) (h : ev L x = some v) : a.eval x = v := by
  cases x with
  | tmp t => exact H.get t v h
  | const u => simpa [Gw.ev, Act.eval] using h
  | global g => simpa [Gw.ev, Act.eval] using h
  | func f => simpa [Gw.ev, Act.eval] using h
theorem Has.put (H : Has n L a) (hd : Nat.blt d n = true) (v : Value) : Has n ((d, v) :: L) (a.put (some d) v) := by
  have hd' : d < n := by simpa [Nat.blt_eq] using hd
  refine ⟨by simp [Act.put, H.size], by simp [Act.put, H.defers], fun t u h => ?_⟩
  by_cases e : d = t
  · subst e
    have : v = u := by
      have : lk ((d, v) :: L) d = some v := by simp [lk]
      rw [this] at h; exact Option.some.inj h
    subst this
    have hlt : d < a.tmps.size := by rw [H.size]; exact hd'
    simp [Act.put, Array.getD_eq_getD_getElem?, hlt]
  · have hb : Nat.beq d t = false := by
      cases hb : Nat.beq d t
      · rfl
      · exact absurd (Nat.eq_of_beq_eq_true hb) e
    have h2 : lk L t = some u := by simpa [lk, hb] using h
    have := H.get t u h2
    rw [← this]
    simp [Act.put, Array.getD_eq_getD_getElem?, e]
theorem Has.put_none (H : Has n L a) (v : Value) : Has n L (a.put none v) := H
/-- Fewer slots. -/
def sub (L' L : Slots) : Bool := L'.all fun p => match lk L p.1 with | some _ => true | none => false
theorem Has.keep (H : Has n L a) (L' : Slots) (h : ∀ t v, lk L' t = some v → lk L t = some v) : Has n L' a :=
  ⟨H.size, H.defers, fun t v e => H.get t v (h t v e)⟩
def pickSlots (L : Slots) : List Nat → Slots
  | [] => []
  | t :: r => match lk L t with | some v => (t, v) :: pickSlots L r | none => pickSlots L r
theorem lk_pick (L : Slots) : ∀ (ts : List Nat) (t : Nat) (v : Value), lk (pickSlots L ts) t = some v → lk L t = some v
  | [], t, v, h => by simp [pickSlots, lk] at h
  | s :: r, t, v, h => by
    unfold pickSlots at h
    cases hs : lk L s with
    | none => rw [hs] at h; exact lk_pick L r t v h
    | some u =>
      rw [hs] at h
      by_cases e : Nat.beq s t = true
      · have : s = t := Nat.eq_of_beq_eq_true e
        subst this
        simp [lk] at h
        rw [hs, h]
      · have e' : Nat.beq s t = false := by
          cases hb : Nat.beq s t
          · rfl
          · exact absurd hb e
        simp only [lk, e'] at h
        exact lk_pick L r t v h
/-- Keep the slots `ts` alone. -/
theorem Has.only (H : Has n L a) (ts : List Nat) {L' : Slots} (h : pickSlots L ts = L') : Has n L' a :=
  H.keep L' fun t v e => lk_pick L ts t v (by rw [h]; exact e)
end

/-! ### Entering and leaving a function -/
def slotsOf : Nat → List Value → Slots
  | _, [] => []
  | i, v :: r => (i, v) :: slotsOf (i + 1) r
theorem lk_slotsOf : ∀ (i : Nat) (vs : List Value) (t : Nat) (v : Value), lk (slotsOf i vs) t = some v → i ≤ t ∧ vs[t - i]? = some v
  | i, [], t, v, h => by simp [slotsOf, lk] at h
  | i, u :: r, t, v, h => by
    unfold slotsOf lk at h
    cases e : Nat.beq i t with
    | true =>
      have : i = t := Nat.eq_of_beq_eq_true e
      subst this
      simp at h
      simp [h]
    | false =>
      simp only [e] at h
      have ⟨h1, h2⟩ := lk_slotsOf (i + 1) r t v h
      refine ⟨by omega, ?_⟩
      have : t - i = (t - (i + 1)) + 1 := by omega
      rw [this]; simpa using h2
theorem enter {P : Program} {f : FuncId} {fn : Func} {c : Code} {args : List Value} {w : World} {R : Ending → World → Prop} {n : Nat}
    (hf : P.funcs[f]? = some fn) (hb : fn.body = some c) (hn : fn.ntmps = n) (hl : Nat.ble args.length n = true)
    (h : ∀ a, Has n (slotsOf 0 args) a → c.wp P (bodyPost P fn R) a w) : Calls P f args.toArray w R := by
  refine calls_of_wp hf hb (h _ ⟨?_, rfl, fun t v e => ?_⟩)
  · have : args.length ≤ n := by simpa [Nat.ble_eq] using hl
    simp [hn]; omega
  · have ⟨_, h2⟩ := lk_slotsOf 0 args t v e
    have h3 : args[t]? = some v := by simpa using h2
    have hlt : t < args.length := by
      rcases Nat.lt_or_ge t args.length with h | h
      · exact h
      · simp [List.getElem?_eq_none h] at h3
    rw [List.getElem?_eq_getElem hlt] at h3
    simp [Array.getD_eq_getD_getElem?, Array.getElem?_append, hlt]
    exact Option.some.inj h3

def resSlots (L : Slots) : List ResultVar → Option (List Value)
  | [] => some []
  | .tmp t :: r => match lk L t, resSlots L r with | some v, some vs => some (v :: vs) | _, _ => none
  | .cell .. :: _ => none
def packV : List Value → Value
  | [v] => v
  | vs => .tuple vs.toArray

theorem run_mapM_list {α β : Type} (P : Program) (w : World) (f : α → Sem β) : ∀ (l : List α) (g : α → β), (∀ x ∈ l, (f x).run P w = .ok (g x) w) → (l.mapM f).run P w = .ok (l.map g) w
  | [], g, _ => by simp
  | x :: r, g, h => by
    have h1 := h x (by simp)
    have h2 := run_mapM_list P w f r g (fun y hy => h y (by simp [hy]))
    simp [List.mapM_cons, h1, h2]

/-- What the results are: `.tmp` slots known, `.cell`s loaded. -/
inductive Res (P : Program) (L : Slots) (w : World) : List ResultVar → List Value → Prop
  | nil : Res P L w [] []
  | tmp {t v r vs} (h : lk L t = some v) (k : Res P L w r vs) : Res P L w (.tmp t :: r) (v :: vs)
  | cell {t T p v r vs} (h : lk L t = some (.pointer (some p))) (hl : (loadVar T p).run P w = .ok v w) (k : Res P L w r vs) : Res P L w (.cell t T :: r) (v :: vs)
def rv (tm : Array Value) : ResultVar → Sem Value
  | .tmp t => pure (tm.getD t undef)
  | .cell c t => do loadVar t (← asAddr (tm.getD c undef))
theorem results_eq (fn : Func) (tm : Array Value) : results fn tm = (do let vs ← fn.results.mapM (rv tm); pure (if h : vs.size = 1 then vs[0] else .tuple vs)) := by
  unfold results
  have : (fun | ResultVar.tmp t => (pure (tm.getD t undef) : Sem Value) | .cell c t => do loadVar t (← asAddr (tm.getD c undef))) = rv tm := by
    funext x; cases x <;> rfl
  rw [← this]; rfl
theorem Res.run {P : Program} {n : Nat} {L : Slots} {w : World} {a : Act} (H : Has n L a) {rs : List ResultVar} {vs : List Value} (h : Res P L w rs vs) :
    (rs.mapM (rv a.tmps)).run P w = .ok vs w := by
  induction h with
  | nil => rfl
  | tmp h k ih => simp only [List.mapM_cons, rv, H.get _ _ h, Sem.run_bind, Sem.run_pure, Result.andThen_ok, ih]
  | @cell t T p v r vs h hl k ih =>
    have e : (asAddr (.pointer (some p))).run P w = .ok p w := rfl
    simp only [List.mapM_cons, rv, H.get _ _ h, e, hl, Sem.run_bind, Sem.run_pure, Result.andThen_ok, ih]
theorem ret_ok {P : Program} {fn : Func} {R : Ending → World → Prop} {n : Nat} {L : Slots} {a : Act} {w : World} {rs : List ResultVar} {vs : List Value} (H : Has n L a)
    (hr : fn.results = rs.toArray) (h : Res P L w rs vs) (hR : R (.returned (packV vs)) w) : bodyPost P fn R .ret a w := by
  refine ⟨H.defers, packV vs, ?_, hR⟩
  have := h.run H
  rw [results_eq, hr, List.mapM_toArray]
  simp only [Sem.run_bind, Sem.run_map, this, Result.andThen_ok, Sem.run_pure]
  cases vs with
  | nil => rfl
  | cons v r => cases r with
    | nil => rfl
    | cons u r => simp [packV]
theorem end_ok {P : Program} {fn : Func} {R : Ending → World → Prop} {n : Nat} {L : Slots} {a : Act} {w : World} {rs : List ResultVar} {vs : List Value} (H : Has n L a)
    (hr : fn.results = rs.toArray) (h : Res P L w rs vs) (hR : R (.returned (packV vs)) w) : bodyPost P fn R .normal a w := ret_ok H hr h hR
end Gw
namespace Gw
open Go Go.RowKit

/-! ### Worlds -/
/-- What was there stays, but for the blocks `X`. -/
structure Bel (X : List Nat) (w w' : World) : Prop where
  os : w'.os = w.os
  tape : w'.tape = w.tape
  output : w'.output = w.output
  size : w.heap.size ≤ w'.heap.size
  block : ∀ k, k < w.heap.size → k ∉ X → w'.heap[k]? = w.heap[k]?
theorem Bel.refl (X : List Nat) (w : World) : Bel X w w := ⟨rfl, rfl, rfl, Nat.le_refl _, fun _ _ _ => rfl⟩
theorem Bel.trans {X : List Nat} {a b c : World} (h : Bel X a b) (k : Bel X b c) : Bel X a c :=
  ⟨k.os.trans h.os, k.tape.trans h.tape, k.output.trans h.output, Nat.le_trans h.size k.size, fun i hi hx => (k.block i (Nat.lt_of_lt_of_le hi h.size) hx).trans (h.block i hi hx)⟩
theorem Bel.weaken {X Y : List Nat} {a b : World} (h : Bel X a b) (hs : ∀ k, k < a.heap.size → k ∈ X → k ∈ Y) : Bel Y a b :=
  ⟨h.os, h.tape, h.output, h.size, fun i hi hy => h.block i hi fun hx => hy (hs i hi hx)⟩
theorem Bel.below {w w' : World} (h : Bel [] w w') : Below w.heap.size w w' := ⟨h.os, h.tape, h.output, h.size, fun k hk => h.block k hk (by simp)⟩
theorem Bel.of_below {w w' : World} (h : Below w.heap.size w w') : Bel [] w w' := ⟨h.os, h.tape, h.output, h.size, fun k hk _ => h.block k hk⟩
theorem Bel.alloc (X : List Nat) (w : World) (o : Obj) : Bel X w (w.alloc o) :=
  ⟨rfl, rfl, rfl, by simp, fun k hk _ => by show (w.heap.push o)[k]? = _; rw [Array.getElem?_push, if_neg (by omega)]⟩
theorem Bel.drew (X : List Nat) (w : World) : Bel X w w.drew := ⟨rfl, rfl, rfl, Nat.le_refl _, fun _ _ _ => rfl⟩
theorem Bel.setCell {X : List Nat} (w : World) {a : Addr} (v : Value) (h : w.heap.size ≤ a.block ∨ a.block ∈ X) : Bel X w (w.setCell a v) :=
  ⟨rfl, rfl, rfl, by simp, fun k hk hx => by
    simp only [World.setCell, Array.getElem?_modify]
    rw [if_neg]; intro e; rcases h with h | h
    · omega
    · exact hx (e ▸ h)⟩
/-- Two steps, the second of which may write what the first made. -/
theorem Bel.then {X Y : List Nat} {a b c : World} (h : Bel X a b) (k : Bel Y b c) (hy : ∀ i, i ∈ Y → a.heap.size ≤ i ∨ i ∈ X) : Bel X a c :=
  ⟨k.os.trans h.os, k.tape.trans h.tape, k.output.trans h.output, Nat.le_trans h.size k.size, fun i hi hx =>
    (k.block i (Nat.lt_of_lt_of_le hi h.size) fun e => (hy i e).elim (fun h1 => by omega) hx).trans (h.block i hi hx)⟩

/-- A part of the memory that stays as it is. -/
abbrev Mem := Nat → Option Obj
def Mem.Le (m m' : Mem) : Prop := ∀ b o, m b = some o → m' b = some o
theorem Mem.Le.refl (m : Mem) : m.Le m := fun _ _ h => h
theorem Mem.Le.trans {m m' m'' : Mem} (h : m.Le m') (k : m'.Le m'') : m.Le m'' := fun b o e => k b o (h b o e)
def Sub (m : Mem) (w : World) : Prop := ∀ b o, m b = some o → w.heap[b]? = some o
def grow (m : Mem) (w w' : World) : Mem := fun b => if b < w.heap.size then m b else w'.heap[b]?
theorem Sub.lt {m : Mem} {w : World} (h : Sub m w) {b : Nat} {o : Obj} (e : m b = some o) : b < w.heap.size := by
  have := h b o e
  rcases Nat.lt_or_ge b w.heap.size with h | h
  · exact h
  · simp [Array.getElem?_eq_none h] at this
theorem Sub.le_grow {m : Mem} {w : World} (h : Sub m w) (w' : World) : m.Le (grow m w w') := fun b o e => by
  unfold grow; rw [if_pos (h.lt e)]; exact e
/-- All that is there. -/
def all (w : World) : Mem := fun b => w.heap[b]?
theorem sub_all (w : World) : Sub (all w) w := fun _ _ h => h
def Mem.put (m : Mem) (b : Nat) (o : Obj) : Mem := fun k => if k = b then some o else m k

abbrev Boxes := List (Nat × Obj)
/-- The state of an activation: begun in `w0`; its boxes `R` (blocks that only it knows, each with what it holds), what stays `m`, the world `w`; of what was there in `w0` it may write `X` alone. -/
structure St (X : List Nat) (w0 : World) (m0 : Mem) (R : Boxes) (m : Mem) (w : World) : Prop where
  bel : Bel X w0 w
  boxes : ∀ (j : Nat) p, R[j]? = some p → (w0.heap.size ≤ p.1 ∨ p.1 ∈ X) ∧ w.heap[p.1]? = some p.2 ∧ m p.1 = none
  nodup : ∀ (j k : Nat) p q, R[j]? = some p → R[k]? = some q → p.1 = q.1 → j = k
  mem : Sub m w
  low : ∀ b o, m b = some o → b < w0.heap.size → m0 b = some o

section
variable {X : List Nat} {w0 w : World} {R : Boxes} {m m0 : Mem}
theorem lt_of_heap {w : World} {b : Nat} {o : Obj} (h : w.heap[b]? = some o) : b < w.heap.size := by
  rcases Nat.lt_or_ge b w.heap.size with h' | h'
  · exact h'
  · simp [Array.getElem?_eq_none h'] at h
theorem St.lt (S : St X w0 m0 R m w) {j : Nat} {p : Nat × Obj} (h : R[j]? = some p) : p.1 < w.heap.size := lt_of_heap (S.boxes j p h).2.1
theorem St.start (hm : Sub m w) : St [] w m [] m w := ⟨Bel.refl _ _, fun j p h => by simp at h, fun j k p q h => by simp at h, hm, fun _ _ h _ => h⟩
theorem St.start1 {b : Nat} {o : Obj} (hm : Sub m w) (hb : w.heap[b]? = some o) (hn : m b = none) : St [b] w m [(b, o)] m w :=
  ⟨Bel.refl _ _, fun j p h => by
    cases j with
    | zero => simp at h; subst h; exact ⟨.inr (by simp), hb, hn⟩
    | succ j => simp at h,
   fun j k p q h h' _ => by
    cases j <;> cases k <;> simp_all, hm, fun _ _ h _ => h⟩
/-- A step that writes nothing that was there (a call, a new block that stays, a draw). -/
theorem St.step (S : St X w0 m0 R m w) {w' : World} (h : Bel [] w w') : St X w0 m0 R m w' :=
  ⟨S.bel.then h (fun _ h => by cases h), fun j p hp => ⟨(S.boxes j p hp).1, by rw [h.block _ (S.lt hp) (by simp)]; exact (S.boxes j p hp).2.1, (S.boxes j p hp).2.2⟩, S.nodup,
    fun b o e => by rw [h.block _ (S.mem.lt e) (by simp)]; exact S.mem b o e, S.low⟩
/-- .. and what it made stays. -/
theorem St.grow (S : St X w0 m0 R m w) {w' : World} (h : Bel [] w w') : St X w0 m0 R (grow m w w') w' :=
  ⟨(S.step h).bel, fun j p hp => ⟨((S.step h).boxes j p hp).1, ((S.step h).boxes j p hp).2.1, by unfold Gw.grow; rw [if_pos (S.lt hp)]; exact (S.boxes j p hp).2.2⟩, S.nodup,
    fun b o e => by
      unfold Gw.grow at e
      split at e
      · exact (S.step h).mem b o e
      · exact e,
    fun b o e hb => by
      unfold Gw.grow at e
      rw [if_pos (Nat.lt_of_lt_of_le hb S.bel.size)] at e
      exact S.low b o e hb⟩
theorem heap_alloc_new (w : World) (o : Obj) : (w.alloc o).heap[w.heap.size]? = some o := by
  show (w.heap.push o)[w.heap.size]? = _
  simp
/-- A new box. -/
theorem St.box (S : St X w0 m0 R m w) (o : Obj) : St X w0 m0 ((w.heap.size, o) :: R) m (w.alloc o) := by
  have T := S.step (Bel.alloc [] w o)
  refine ⟨T.bel, fun j p hp => ?_, fun j k p q hp hq e => ?_, T.mem, S.low⟩
  · cases j with
    | zero =>
      simp at hp; subst hp
      refine ⟨.inl S.bel.size, heap_alloc_new w o, ?_⟩
      cases hm : m w.heap.size with
      | none => rfl
      | some o' => have := S.mem.lt hm; omega
    | succ j => exact T.boxes j p (by simpa using hp)
  · cases j with
    | zero =>
      cases k with
      | zero => rfl
      | succ k =>
        simp at hp hq; subst hp
        have := S.lt hq
        simp only at e; omega
    | succ j =>
      cases k with
      | zero =>
        simp at hp hq; subst hq
        have := S.lt hp
        simp only at e; omega
      | succ k => exact congrArg (· + 1) (S.nodup j k p q (by simpa using hp) (by simpa using hq) e)
/-- Some of the boxes, in whatever order. -/
theorem St.reindex (S : St X w0 m0 R m w) {R' : Boxes} (g : Nat → Nat) (hg : ∀ j k, g j = g k → j = k) (h : ∀ (j : Nat) p, R'[j]? = some p → R[g j]? = some p) : St X w0 m0 R' m w :=
  ⟨S.bel, fun j p hp => S.boxes _ p (h j p hp), fun j k p q hp hq e => hg _ _ (S.nodup _ _ p q (h j p hp) (h k q hq) e), S.mem, S.low⟩
theorem St.drop (S : St X w0 m0 R m w) (i : Nat) : St X w0 m0 (R.eraseIdx i) m w :=
  S.reindex (fun j => if j < i then j else j + 1) (fun j k h => by
      have h' : (if j < i then j else j + 1) = (if k < i then k else k + 1) := h
      split at h' <;> split at h' <;> omega) fun j p hp => by
    rw [List.getElem?_eraseIdx] at hp
    show R[if j < i then j else j + 1]? = some p
    by_cases hh : j < i
    · rw [if_pos hh] at hp ⊢; exact hp
    · rw [if_neg hh] at hp ⊢; exact hp
/-- A box becomes one of what stays. -/
theorem St.freeze (S : St X w0 m0 R m w) (i : Nat) {b : Nat} {o : Obj} (h : R[i]? = some (b, o)) (hX : w0.heap.size ≤ b) : St X w0 m0 (R.eraseIdx i) (m.put b o) w ∧ m.Le (m.put b o) := by
  have hb := S.boxes i (b, o) h
  have D := S.drop i
  refine ⟨⟨S.bel, fun j p hp => ⟨(D.boxes j p hp).1, (D.boxes j p hp).2.1, ?_⟩, D.nodup, fun k o' e => ?_, fun k o' e hk => ?_⟩, fun k o' e => ?_⟩
  · unfold Mem.put
    rw [if_neg]
    · exact (D.boxes j p hp).2.2
    · intro e
      rw [List.getElem?_eraseIdx] at hp
      split at hp
      · rename_i hlt; have := S.nodup j i p (b, o) hp h e; omega
      · rename_i hlt; have := S.nodup (j + 1) i p (b, o) hp h e; omega
  · unfold Mem.put at e
    split at e
    · rename_i h'; subst h'; rw [hb.2.1]; exact e
    · exact S.mem k o' e
  · unfold Mem.put at e
    rw [if_neg (by omega)] at e
    exact S.low k o' e hk
  · unfold Mem.put
    split
    · rename_i h'; subst h'; rw [hb.2.2] at e; cases e
    · exact e
/-- What stays is told by the end. -/
theorem St.le (S : St X w0 m0 R m w) : m.Le (Gw.grow m0 w0 w) := fun b o e => by
  unfold Gw.grow
  split
  · rename_i h; exact S.low b o e h
  · exact S.mem b o e
/-- A box's cell. -/
theorem St.cell (S : St X w0 m0 R m w) (i : Nat) {b o : Nat} {cs : Array Value} {T : TypeId} {fz : Nat × Nat} {v : Value} (h : R[i]? = some (b, .cells cs T fz)) (hv : cs[o]? = some v) :
    w.cell? ⟨b, o, none⟩ = some v := by
  have := (S.boxes i _ h).2.1
  simp only [World.cell?, this]
  simpa using hv
theorem setCell_heap {w : World} {b o : Nat} {cs : Array Value} {T : TypeId} {fz : Nat × Nat} (v : Value) (h : w.heap[b]? = some (.cells cs T fz)) (k : Nat) :
    (w.setCell ⟨b, o, none⟩ v).heap[k]? = if k = b then some (.cells (cs.setIfInBounds o v) T fz) else w.heap[k]? := by
  simp only [World.setCell, Array.getElem?_modify]
  by_cases e : b = k
  · subst e; simp [h]
  · rw [if_neg e, if_neg (fun h => e h.symm)]
/-- A step that writes one box alone. -/
theorem St.write (S : St X w0 m0 R m w) (i : Nat) {b : Nat} {o o' : Obj} (h : R[i]? = some (b, o)) {w' : World} (hw : Bel [b] w w') (hn : w'.heap[b]? = some o') :
    St X w0 m0 (R.set i (b, o')) m w' := by
  have hb := S.boxes i _ h
  have hi : i < R.length := by
    rcases Nat.lt_or_ge i R.length with h' | h'
    · exact h'
    · simp [List.getElem?_eq_none h'] at h
  have old : ∀ (j : Nat) p, (R.set i (b, o'))[j]? = some p → ∃ q, R[j]? = some q ∧ q.1 = p.1 ∧ (j ≠ i → p = q) ∧ (j = i → p = (b, o')) := fun j p hp => by
    rw [List.getElem?_set] at hp
    by_cases e : i = j
    · subst e
      simp [hi] at hp
      exact ⟨(b, o), h, by rw [← hp], fun h => absurd rfl h, fun _ => hp.symm⟩
    · rw [if_neg e] at hp
      exact ⟨p, hp, rfl, fun _ => rfl, fun h => absurd h.symm e⟩
  refine ⟨S.bel.then hw (fun k hk => by simp at hk; subst hk; exact hb.1), fun j p hp => ?_, fun j k p q hp hq e => ?_, fun k o2 e => ?_, S.low⟩
  · obtain ⟨q, hq, e1, e2, e3⟩ := old j p hp
    have hq' := S.boxes j q hq
    refine ⟨by rw [← e1]; exact hq'.1, ?_, by rw [← e1]; exact hq'.2.2⟩
    by_cases e : j = i
    · rw [e3 e]; exact hn
    · rw [e2 e]
      rw [hw.block _ (S.lt hq) (by
        intro hx; simp at hx
        exact e (S.nodup j i q (b, o) hq h hx))]
      exact hq'.2.1
  · obtain ⟨p', hp', e1, _⟩ := old j p hp
    obtain ⟨q', hq', e2, _⟩ := old k q hq
    exact S.nodup j k p' q' hp' hq' (by rw [e1, e2, e])
  · have hk := S.mem k o2 e
    rw [hw.block _ (S.mem.lt e) (by
      intro hx; simp at hx; subst hx
      rw [hb.2.2] at e; cases e)]
    exact hk
/-- A store into a box. -/
theorem St.set (S : St X w0 m0 R m w) (i : Nat) {b o : Nat} {cs : Array Value} {T : TypeId} {fz : Nat × Nat} (v : Value) (h : R[i]? = some (b, .cells cs T fz)) :
    St X w0 m0 (R.set i (b, .cells (cs.setIfInBounds o v) T fz)) m (w.setCell ⟨b, o, none⟩ v) :=
  S.write i h (Bel.setCell w v (.inr (by simp))) (by rw [setCell_heap v (S.boxes i _ h).2.1]; simp)
end
end Gw
namespace Gw
open Go Go.RowKit

/-! ### One operation of a region -/
def optL : Option Operand → List Operand
  | none => []
  | some x => [x]
def callL (c : Call) : List Operand :=
  match c.callee with
  | .value f => f :: c.args.toList
  | .invoke r _ => r :: c.args.toList
  | .builtin _ => c.args.toList
/-- The operands that an operation reads (of a select: none are told). -/
def opnds : Op → Option (List Operand)
  | .alloc _ | .ready _ | .waits _ => some []
  | .move x | .assign x | .box _ x | .load _ x | .nilCheck x | .unOp _ _ x | .convert _ _ x | .sliceToArrayPointer _ x | .makeInterface _ x
  | .makeChan _ x | .fieldAddr _ x _ | .field _ x _ | .range _ x | .next x _ | .entry x | .typeAssert x _ _ _ | .extract x _ | .panic x | .recv _ x _ => some [x]
  | .pick c a b => some [c, a, b]
  | .build _ ps | .buildSlice _ _ ps => some (ps.toList.map (·.2))
  | .store _ a v | .binOp _ _ a v _ | .makeSlice _ a v | .indexAddr _ a v | .index _ a v | .lookup _ a v _ | .mapEntry _ a v | .send a v => some [a, v]
  | .makeFunc _ first captured => some (first.toList ++ captured.toList)
  | .makeMap _ r => some (optL r)
  | .slice _ x l h m => some (x :: (optL l ++ (optL h ++ optL m)))
  | .mapUpdate _ m k v | .entryStore _ m k v | .insert _ m k v => some [m, k, v]
  | .call c | .go c | .defer c => some (callL c)
  | .select _ _ => none
def evF (L : Slots) (x : Operand) : Value := match ev L x with | some v => v | none => undef
def knows (L : Slots) : List Operand → Bool
  | [] => true
  | x :: r => match ev L x with | some _ => knows L r | none => false
def knowsOp (L : Slots) (o : Op) : Bool := match opnds o with | some l => knows L l | none => false
theorem knows_mem {L : Slots} : ∀ {l : List Operand}, knows L l = true → ∀ x ∈ l, ∃ v, ev L x = some v
  | [], _, x, h => by cases h
  | y :: r, hk, x, h => by
    unfold knows at hk
    cases he : ev L y with
    | none => rw [he] at hk; cases hk
    | some v =>
      rw [he] at hk
      rcases List.mem_cons.1 h with rfl | h
      · exact ⟨v, he⟩
      · exact knows_mem hk x h
theorem Has.evF {n : Nat} {L : Slots} {a : Act} (H : Has n L a) {x : Operand} {v : Value} (h : Gw.ev L x = some v) : a.eval x = Gw.evF L x := by
  rw [H.ev h]; simp [Gw.evF, h]
theorem map_congr_arr {α β : Type} (as : Array α) (f g : α → β) (h : ∀ x ∈ as.toList, f x = g x) : as.map f = as.map g := by
  apply Array.map_congr_left
  intro x hx
  exact h x (by simpa using hx)
theorem optmap_congr (o : Option Operand) (f g : Operand → Value) (h : ∀ x ∈ optL o, f x = g x) : o.map f = o.map g := by
  cases o with
  | none => rfl
  | some x => simp [h x (by simp [optL])]
theorem resolve_congr {ρ ρ' : Operand → Value} (c : Call) (T : TypeId) (h : ∀ x ∈ callL c, ρ x = ρ' x) : resolve ρ c T = resolve ρ' c T := by
  unfold resolve
  unfold callL at h
  cases hc : c.callee with
  | value f =>
    rw [hc] at h
    simp only
    rw [map_congr_arr c.args ρ ρ' (fun x hx => h x (by simp [hx])), h f (by simp)]
  | invoke r mm =>
    rw [hc] at h
    simp only
    rw [map_congr_arr c.args ρ ρ' (fun x hx => h x (by simp [hx])), h r (by simp)]
  | builtin b =>
    rw [hc] at h
    simp only
    rw [map_congr_arr c.args ρ ρ' (fun x hx => h x hx)]
theorem execOp_congr {ρ ρ' : Operand → Value} (o : Oper) {l : List Operand} (hl : opnds o.op = some l) (h : ∀ x ∈ l, ρ x = ρ' x) : execOp ρ o = execOp ρ' o := by
  unfold execOp
  cases ho : o.op <;> rw [ho] at hl <;> simp only [opnds, Option.some.injEq, reduceCtorEq] at hl <;> subst hl <;> simp only
  case build t ps => rw [map_congr_arr ps _ _ (fun x hx => by rw [h x.2 (List.mem_map.2 ⟨x, hx, rfl⟩)])]
  case buildSlice t n ps => rw [map_congr_arr ps _ _ (fun x hx => by rw [h x.2 (List.mem_map.2 ⟨x, hx, rfl⟩)])]
  case makeFunc fn a b => rw [map_congr_arr a ρ ρ' (fun x hx => h x (by simp [hx])), map_congr_arr b ρ ρ' (fun x hx => h x (by simp [hx]))]
  case makeMap t r => rw [optmap_congr r ρ ρ' h]
  case slice t x lo hi mx => rw [h x (by simp), optmap_congr lo ρ ρ' (fun y hy => h y (by simp [hy])), optmap_congr hi ρ ρ' (fun y hy => h y (by simp [hy])), optmap_congr mx ρ ρ' (fun y hy => h y (by simp [hy]))]
  case call c => rw [resolve_congr c _ h]
  case go c => rw [resolve_congr c _ h]
  case defer c => rw [resolve_congr c _ h]
  all_goals simp_all

/-- For every activation of which the slots `L` are known. -/
def WN (F : Act → World → Prop) (n : Nat) (L : Slots) (w : World) : Prop := ∀ a, Has n L a → F a w
abbrev WL (P : Program) (ops : Array Oper) (Q : Exit → Act → World → Prop) (rest : List Oper) (n : Nat) (L : Slots) (w : World) : Prop := WN (wpList P ops Q rest) n L w
abbrev WC (P : Program) (c : Code) (Q : Exit → Act → World → Prop) (n : Nat) (L : Slots) (w : World) : Prop := WN (c.wp P Q) n L w
abbrev WE (Q : Exit → Act → World → Prop) (e : Exit) (n : Nat) (L : Slots) (w : World) : Prop := WN (Q e) n L w
section
variable {P : Program} {ops : Array Oper} {Q : Exit → Act → World → Prop} {rest : List Oper} {n : Nat} {L : Slots} {a : Act} {w w' : World}
theorem exec_has {o : Oper} (H : Has n L a) (hk : knowsOp L o.op = true) : execOp a.eval o = execOp (evF L) o := by
  unfold knowsOp at hk
  cases hl : opnds o.op with
  | none => rw [hl] at hk; cases hk
  | some l =>
    rw [hl] at hk
    exact execOp_congr o hl fun x hx => let ⟨v, hv⟩ := knows_mem hk x hx; H.evF hv
/-- An operation that leaves a value. -/
theorem s_op {o : Oper} {d : Nat} (v : Value) (hg : o.guard = none) (hd : o.dst = some d) (hn : Nat.blt d n = true) (hk : knowsOp L o.op = true)
    (hr : (execOp (evF L) o).run P w = .ok (.value v) w') (k : WL P ops Q rest n ((d, v) :: L) w') : WL P ops Q (o :: rest) n L w := fun a H => by
  refine wpList_plain hg fun K hK => ?_
  unfold Oper.wp
  rw [exec_has H hk, hr, Oper.upon_value, hd]
  exact hK _ _ (k _ (H.put hn v))
/-- .. that leaves none. -/
theorem s_do {o : Oper} (hg : o.guard = none) (hd : o.dst = none) (hk : knowsOp L o.op = true)
    (hr : (execOp (evF L) o).run P w = .ok .skip w') (k : WL P ops Q rest n L w') : WL P ops Q (o :: rest) n L w := fun a H => by
  refine wpList_plain hg fun K hK => ?_
  unfold Oper.wp
  rw [exec_has H hk, hr, Oper.upon_skip, hd]
  exact hK _ _ (k a H)
/-- A call of a Go function. -/
theorem s_enter {o : Oper} {d : Nat} {f : FuncId} {args : Array Value} (hg : o.guard = none) (hd : o.dst = some d) (hn : Nat.blt d n = true) (hk : knowsOp L o.op = true)
    (hr : (execOp (evF L) o).run P w = .ok (.enter f args) w) {R : Value → World → Prop} (hc : Calls P f args w fun e w' => ∃ v, e = .returned v ∧ R v w')
    (k : ∀ v w', R v w' → WL P ops Q rest n ((d, v) :: L) w') : WL P ops Q (o :: rest) n L w := fun a H => by
  refine wpList_plain hg fun K hK => ?_
  unfold Oper.wp
  rw [exec_has H hk, hr, Oper.upon_enter]
  refine hc.mono fun e w' ⟨v, he, hR⟩ => ?_
  subst he
  rw [hd]
  exact hK _ _ (k v w' hR _ (H.put hn v))
/-- A call of a Go function without results. -/
theorem s_enter0 {o : Oper} {f : FuncId} {args : Array Value} (hg : o.guard = none) (hd : o.dst = none) (hk : knowsOp L o.op = true)
    (hr : (execOp (evF L) o).run P w = .ok (.enter f args) w) {R : Value → World → Prop} (hc : Calls P f args w fun e w' => ∃ v, e = .returned v ∧ R v w')
    (k : ∀ v w', R v w' → WL P ops Q rest n L w') : WL P ops Q (o :: rest) n L w := fun a H => by
  refine wpList_plain hg fun K hK => ?_
  unfold Oper.wp
  rw [exec_has H hk, hr, Oper.upon_enter]
  refine hc.mono fun e w' ⟨v, he, hR⟩ => ?_
  subst he
  rw [hd]
  exact hK _ _ (k v w' hR _ H)
theorem s_nil (h : WE Q .normal n L w) : WL P ops Q [] n L w := h
/-- A guarded operation whose guard holds: as an unguarded one. -/
theorem s_on {o : Oper} {i t : Nat} {b : Bool} (hg : o.guard = some (i, b)) (hi : (ops[i]?).bind (·.dst) = some t) (ht : lk L t = some (.bool b))
    (k : WL P ops Q ({ o with guard := none } :: rest) n L w) : WL P ops Q (o :: rest) n L w := fun a H => by
  replace k := k a H
  unfold wpList at k ⊢
  have hw : Region.wanted o (yielded ops a.tmps) = true := by
    unfold Region.wanted
    rw [hg]
    simp only
    unfold yielded
    rw [hi]
    have h2 := H.get t _ ht
    simp only [Option.bind_some]
    rw [Array.getD_eq_getD_getElem?] at h2
    cases h3 : a.tmps[t]? with
    | none => rw [h3] at h2; simp [undef] at h2
    | some u => rw [h3] at h2; simp at h2; subst h2; simp
  rw [if_pos hw]
  have hw2 : Region.wanted { o with guard := none } (yielded ops a.tmps) = true := rfl
  rw [if_pos hw2] at k
  exact k
/-- A guarded operation whose guard doesn't hold. -/
theorem s_off {o : Oper} {d i t : Nat} {b c : Bool} (hg : o.guard = some (i, b)) (hd : o.dst = some d) (hn : Nat.blt d n = true) (hi : (ops[i]?).bind (·.dst) = some t)
    (ht : lk L t = some (.bool c)) (hb : c = !b) (k : WL P ops Q rest n ((d, undef) :: L) w) : WL P ops Q (o :: rest) n L w := fun a H => by
  unfold wpList
  have hw : Region.wanted o (yielded ops a.tmps) = false := by
    unfold Region.wanted
    rw [hg]
    simp only
    unfold yielded
    rw [hi]
    have h2 := H.get t _ ht
    simp only [Option.bind_some]
    rw [Array.getD_eq_getD_getElem?] at h2
    subst hb
    cases h3 : a.tmps[t]? with
    | none => simp
    | some u => rw [h3] at h2; simp at h2; subst h2; cases b <;> simp
  rw [if_neg (by rw [hw]; simp), hd]
  exact k _ (H.put hn undef)

/-! ### Control -/
variable {x y : Code}
theorem c_region {id : Nat} {l : List Oper} (h : WL P l.toArray (Exit.then (y.wp P Q) Q) l n L w) : WC P (Code.seq (Code.region id l.toArray false) y) Q n L w :=
  fun a H => wp_seq (wp_region_lit (h a H))
theorem c_region1 {id : Nat} {l : List Oper} (h : WL P l.toArray Q l n L w) : WC P (Code.region id l.toArray false) Q n L w := fun a H => wp_region_lit (h a H)
theorem c_seq (h : WC P x (Exit.then (y.wp P Q) Q) n L w) : WC P (Code.seq x y) Q n L w := fun a H => wp_seq (h a H)
theorem c_skip (h : WE Q .normal n L w) : WC P .skip Q n L w := fun a H => wp_skip (h a H)
theorem c_exit {id : Nat} (h : WE Q (.exit id) n L w) : WC P (.exit id) Q n L w := fun a H => wp_exit (h a H)
theorem c_ret (h : WE Q .ret n L w) : WC P .ret Q n L w := fun a H => wp_ret (h a H)
theorem c_block {id : Nat} {c : Code} (h : WC P c (Exit.inBlock id Q) n L w) : WC P (.block id c) Q n L w := fun a H => wp_block (h a H)
theorem c_if {c : Operand} {t : Bool} (hc : ev L c = some (.bool t)) (ht : t = true → WC P x Q n L w) (hf : t = false → WC P y Q n L w) : WC P (Code.cond c x y) Q n L w :=
  fun a H => wp_cond_split (H.ev hc) (fun e => ht e a H) (fun e => hf e a H)
theorem c_then {c : Operand} (hc : ev L c = some (.bool true)) (h : WC P x Q n L w) : WC P (Code.cond c x y) Q n L w := fun a H => wp_cond_true (H.ev hc) (h a H)
theorem c_else {c : Operand} (hc : ev L c = some (.bool false)) (h : WC P y Q n L w) : WC P (Code.cond c x y) Q n L w := fun a H => wp_cond_false (H.ev hc) (h a H)
theorem e_then {next : Act → World → Prop} (h : WN next n L w) : WE (Exit.then next Q) .normal n L w := h
theorem e_thenX {next : Act → World → Prop} {i : Nat} (h : WE Q (.exit i) n L w) : WE (Exit.then next Q) (.exit i) n L w := h
theorem e_thenR {next : Act → World → Prop} (h : WE Q .ret n L w) : WE (Exit.then next Q) .ret n L w := h
theorem e_blk {i : Nat} (h : WE Q .normal n L w) : WE (Exit.inBlock i Q) .normal n L w := h
theorem e_blkX {i : Nat} (h : WE Q .normal n L w) : WE (Exit.inBlock i Q) (.exit i) n L w := fun a H => by
  simp only [Exit.inBlock, if_true]; exact h a H
theorem e_blkY {i j : Nat} (hij : Nat.beq i j = false) (h : WE Q (.exit i) n L w) : WE (Exit.inBlock j Q) (.exit i) n L w := fun a H => by
  have : i ≠ j := fun e => by subst e; simp at hij
  simp only [Exit.inBlock, if_neg this]; exact h a H
theorem e_blkR {i : Nat} (h : WE Q .ret n L w) : WE (Exit.inBlock i Q) .ret n L w := h
/-- The slots `ts` alone are known any more. -/
theorem w_only {F : Act → World → Prop} (ts : List Nat) {L' : Slots} (h : pickSlots L ts = L') (k : WN F n L' w) : WN F n L w := fun a H => k a (H.only ts h)
/-- A slot's bool is one of two. -/
theorem w_bool {F : Act → World → Prop} {t : Nat} {c : Bool} (ht : lk L t = some (.bool c)) (h1 : c = true → WN F n ((t, .bool true) :: L) w) (h2 : c = false → WN F n ((t, .bool false) :: L) w) : WN F n L w := fun a H => by
  have hk : ∀ b : Bool, c = b → Has n ((t, .bool b) :: L) a := fun b e => ⟨H.size, H.defers, fun s v hs => by
    unfold lk at hs
    split at hs
    · rename_i e1
      have : t = s := Nat.eq_of_beq_eq_true e1
      subst this
      have hs := Option.some.inj hs
      rw [← hs, ← e]; exact H.get _ _ ht
    · exact H.get _ _ hs⟩
  cases c with
  | true => exact h1 rfl a (hk true rfl)
  | false => exact h2 rfl a (hk false rfl)
/-- A slot's value said otherwise. -/
theorem w_eq {F : Act → World → Prop} {t : Nat} {u v : Value} (ht : lk L t = some u) (e : u = v) (h : WN F n ((t, v) :: L) w) : WN F n L w := fun a H =>
  h a ⟨H.size, H.defers, fun s x hs => by
    unfold lk at hs
    split at hs
    · rename_i e1
      have : t = s := Nat.eq_of_beq_eq_true e1
      subst this
      have hs := Option.some.inj hs
      rw [← hs, ← e]; exact H.get _ _ ht
    · exact H.get _ _ hs⟩
/-- The loop's own continuation. -/
def Again (J : Nat → Slots → World → Prop) (n k : Nat) : Act → World → Prop := fun a w => ∃ k', k' < k ∧ ∃ L, J k' L w ∧ Has n L a
theorem e_again {J : Nat → Slots → World → Prop} {k k' : Nat} (ts : List Nat) {L' : Slots} (hk : k' < k) (hL : pickSlots L ts = L') (hJ : J k' L' w) : WN (Again J n k) n L w :=
  fun a H => ⟨k', hk, L', hJ, H.only ts hL⟩
theorem c_loop {c : Code} (J : Nat → Slots → World → Prop) {k : Nat} (ts : List Nat) {L' : Slots} (hL : pickSlots L ts = L') (h0 : J k L' w)
    (step : ∀ k L w, J k L w → WC P c (Exit.then (Again J n k) Q) n L w) : WC P (Code.loop c) Q n L w := fun a H => by
  intro b kk cs
  have key : ∀ k a w, (∃ L, J k L w ∧ Has n L a) → ∃ e a' w', Q e a' w' ∧ Arrives P (lone (b.at a (.code c :: .inLoop c :: kk)) cs w) b kk cs e a' w' := by
    intro k
    induction k using Nat.strongRecOn with
    | _ k ih =>
      intro a w ⟨L, hJ, H⟩
      obtain ⟨e, a₁, w₁, hq, harr⟩ := step k L w hJ a H b (.inLoop c :: kk) cs
      cases e with
      | normal =>
        obtain ⟨k', hlt, hI₁⟩ := hq
        obtain ⟨e₂, a₂, w₂, hq₂, harr₂⟩ := ih k' hlt a₁ w₁ hI₁
        exact ⟨e₂, a₂, w₂, hq₂, .of_steps (Steps.trans harr (.one step_inLoop)) harr₂⟩
      | exit id => exact ⟨_, a₁, w₁, hq, .pass (x := .inLoop c) rfl (fun _ _ => .inl (by simp)) harr⟩
      | goto l => exact ⟨_, a₁, w₁, hq, .pass (x := .inLoop c) rfl (fun _ _ => .inl (by simp)) harr⟩
      | ret => exact ⟨_, a₁, w₁, hq, .pass (x := .inLoop c) rfl (fun _ _ => .inl (by simp)) harr⟩
      | panic ch => exact ⟨_, a₁, w₁, hq, .pass (x := .inLoop c) rfl (fun _ _ => .inl (by simp)) harr⟩
      | outgrown => exact ⟨_, a₁, w₁, hq, .pass (x := .inLoop c) rfl (fun _ _ => .inl (by simp)) harr⟩
  obtain ⟨e, a', w', hq, harr⟩ := key k a w ⟨L', h0, H.only ts hL⟩
  exact ⟨e, a', w', hq, .of_steps (.one step_loop) harr⟩
end
end Gw
namespace Gw
open Go Go.RowKit

/-! ### Types -/
def isAggD : TypeDesc → Bool
  | .struct _ | .array _ _ => true
  | _ => false
/-- A type's zero value, cells, bytes, and whether it is an aggregate. -/
def tyOf (P : Program) (T : TypeId) : Option (Value × Nat × Nat × Bool) :=
  match P.info? T, P.underlying T with
  | some i, some u => match i.zero with | some z => some (z, i.size, i.bytes, isAggD u) | none => none
  | _, _ => none
section
variable {P : Program} {T : TypeId} {z : Value} {s by_ : Nat} {g : Bool} {w : World}
theorem tyOf_parts (h : tyOf P T = some (z, s, by_, g)) : ∃ i u, P.info? T = some i ∧ P.underlying T = some u ∧ i.zero = some z ∧ i.size = s ∧ i.bytes = by_ ∧ isAggD u = g := by
  unfold tyOf at h
  cases hi : P.info? T with
  | none => rw [hi] at h; cases h
  | some i =>
    cases hu : P.underlying T with
    | none => rw [hi, hu] at h; cases h
    | some u =>
      rw [hi, hu] at h
      cases hz : i.zero with
      | none => simp [hz] at h
      | some z' =>
        simp only [hz, Option.some.injEq, Prod.mk.injEq] at h
        obtain ⟨rfl, rfl, rfl, rfl⟩ := h
        exact ⟨i, u, rfl, rfl, hz, rfl, rfl, rfl⟩
theorem run_sizeOf (h : tyOf P T = some (z, s, by_, g)) : (Go.sizeOf T).run P w = .ok s w := by
  obtain ⟨i, u, hi, hu, hz, rfl, rfl, hg⟩ := tyOf_parts h
  simp [Go.sizeOf, typeInfo, hi]
theorem run_zero (h : tyOf P T = some (z, s, by_, g)) : (zeroValue T).run P w = .ok z w := by
  obtain ⟨i, u, hi, hu, hz, rfl, rfl, hg⟩ := tyOf_parts h
  simp [zeroValue, typeInfo, hi, hz]
theorem run_isAgg (h : tyOf P T = some (z, s, by_, g)) : (isAgg T).run P w = .ok g w := by
  obtain ⟨i, u, hi, hu, hz, rfl, rfl, hg⟩ := tyOf_parts h
  subst hg
  cases u <;> simp [isAgg, run_underlying hu, isAggD]
theorem add_none (b o n : Nat) : Addr.add ⟨b, o, none⟩ n = ⟨b, o + n, none⟩ := by
  unfold Addr.add
  split
  · rename_i h; subst h; rfl
  · rfl

/-! ### Loads -/
theorem ld1 (h : tyOf P T = some (z, s, by_, false)) {p : Addr} {v : Value} (hc : w.cell? p = some v) : (loadVar T p).run P w = .ok v w := by
  simp [loadVar, run_isAgg h, run_load, hc]
theorem ldk (h : tyOf P T = some (z, s, by_, true)) {p : Addr} {cs : List Value} (hs : cs.length = s) (hc : ∀ j v, cs[j]? = some v → w.cell? (p.add j) = some v) : (loadVar T p).run P w = .ok (.agg cs.toArray) w := by
  subst hs
  have := run_loadCells_list (P := P) (w := w) p cs hc
  simp [loadVar, run_isAgg h, run_sizeOf h, this]

/-! ### Stores -/
def putL (cs : Array Value) (o : Nat) : List Value → Array Value
  | [] => cs
  | v :: r => putL (cs.setIfInBounds o v) (o + 1) r
theorem size_putL (cs : Array Value) (o : Nat) (vs : List Value) : (putL cs o vs).size = cs.size := by
  induction vs generalizing cs o with
  | nil => rfl
  | cons v r ih => unfold putL; rw [ih]; simp
theorem get_putL (cs : Array Value) (o : Nat) (vs : List Value) (h : o + vs.length ≤ cs.size) (k : Nat) :
    (putL cs o vs)[k]? = if k < o then cs[k]? else if k < o + vs.length then vs[k - o]? else cs[k]? := by
  induction vs generalizing cs o with
  | nil => unfold putL; simp only [List.length_nil, Nat.add_zero]; split <;> rfl
  | cons v r ih =>
    unfold putL
    simp only [List.length_cons] at h ⊢
    rw [ih _ _ (by simp; omega)]
    by_cases h1 : k < o
    · rw [if_pos (by omega), if_pos h1, Array.getElem?_setIfInBounds_ne (by omega)]
    · by_cases h2 : k = o
      · subst h2
        rw [if_pos (by omega), if_neg h1, if_pos (by omega), Array.getElem?_setIfInBounds_self_of_lt (by omega)]
        simp
      · rw [if_neg (by omega), if_neg h1]
        by_cases h3 : k < o + 1 + r.length
        · rw [if_pos h3, if_pos (by omega)]
          have : k - o = (k - (o + 1)) + 1 := by omega
          rw [this]; simp
        · rw [if_neg h3, if_neg (by omega), Array.getElem?_setIfInBounds_ne (by omega)]
theorem run_storeCells {b : Nat} {T' : TypeId} : ∀ (vs : List Value) (w : World) (o i : Nat) (cs : Array Value), w.heap[b]? = some (.cells cs T') → o + i + vs.length ≤ cs.size → (∀ v ∈ vs, v.oneCell' = true) →
    ∃ w', (storeCells ⟨b, o, none⟩ vs i).run P w = .ok () w' ∧ Bel [b] w w' ∧ w'.heap[b]? = some (.cells (putL cs (o + i) vs) T')
  | [], w, o, i, cs, hb, _, _ => ⟨w, by simp [storeCells], Bel.refl _ _, by simpa [putL] using hb⟩
  | v :: r, w, o, i, cs, hb, hl, h1 => by
    simp only [List.length_cons] at hl
    have hc : w.cell? ⟨b, o + i, none⟩ = some (cs[o + i]'(by omega)) := by
      simp only [World.cell?, hb]
      simp [Array.getElem?_eq_getElem (show o + i < cs.size by omega)]
    have hf : w.frozen? ⟨b, o + i, none⟩ = false := by
      simp only [World.frozen?, hb]
      simp
    have hst : (store ⟨b, o + i, none⟩ v).run P w = .ok () (w.setCell ⟨b, o + i, none⟩ v) := by
      rw [run_store P w _ v _ (h1 v (by simp)), hc]
      simp [hf]
    have hh := setCell_heap v hb (o := o + i) b
    rw [if_pos rfl] at hh
    obtain ⟨w', hr, hbel, hw'⟩ := run_storeCells r (w.setCell ⟨b, o + i, none⟩ v) o (i + 1) _ hh (by simp; omega) (fun u hu => h1 u (by simp [hu]))
    refine ⟨w', ?_, ?_, ?_⟩
    · unfold storeCells
      simp only [Sem.run_bind, add_none, hst, Result.andThen_ok, hr]
    · exact (Bel.setCell w v (.inr (by simp))).trans hbel
    · rw [hw', ← Nat.add_assoc, putL]
theorem st1 (h : tyOf P T = some (z, 1, by_, g)) {b o : Nat} {cs : Array Value} {T' : TypeId} {v : Value} (hv : v.oneCell' = true) (hb : w.heap[b]? = some (.cells cs T')) (ho : o < cs.size) :
    ∃ w', (storeVar T ⟨b, o, none⟩ v).run P w = .ok () w' ∧ Bel [b] w w' ∧ w'.heap[b]? = some (.cells (cs.setIfInBounds o v) T') := by
  have hcs : v.cells = #[v] := by cases v <;> first | rfl | cases hv
  obtain ⟨w', hr, h2, h3⟩ := run_storeCells (P := P) [v] w o 0 cs hb (by simp; omega) (by simp [hv])
  refine ⟨w', ?_, h2, by simpa [putL] using h3⟩
  unfold storeVar
  simp [hcs, run_sizeOf h, hr]
theorem stk (h : tyOf P T = some (z, s, by_, g)) {b o : Nat} {cs : Array Value} {T' : TypeId} {vs : List Value} (hl : vs.length = s) (hv : ∀ v ∈ vs, v.oneCell' = true) (hb : w.heap[b]? = some (.cells cs T')) (ho : o + s ≤ cs.size) :
    ∃ w', (storeVar T ⟨b, o, none⟩ (.agg vs.toArray)).run P w = .ok () w' ∧ Bel [b] w w' ∧ w'.heap[b]? = some (.cells (putL cs o vs) T') := by
  obtain ⟨w', hr, h2, h3⟩ := run_storeCells (P := P) vs w o 0 cs hb (by simp; omega) hv
  refine ⟨w', ?_, h2, by simpa using h3⟩
  unfold storeVar
  simp [Value.cells, run_sizeOf h, hl, hr]
end

/-! ### What an operation runs to -/
/-- In world `w`, with the slots `L`, the operation leaves the value `v` and the world as it is. -/
structure Runs (P : Program) (L : Slots) (o : Oper) (w : World) (v : Value) : Prop where
  knows : knowsOp L o.op = true
  run : (execOp (evF L) o).run P w = .ok (.value v) w
section
variable {P : Program} {ops : Array Oper} {Q : Exit → Act → World → Prop} {rest : List Oper} {n : Nat} {L : Slots} {a : Act} {w w0 : World} {X : List Nat} {R : Boxes} {m m0 : Mem}
variable {T : Nat} {dd : Option Tmp} {d : Nat} {x y : Operand} {typ : TypeId} {pos : String} {af : Array Edge} {gd : Option (Nat × Bool)} {z : Value} {s by_ : Nat} {g : Bool}
theorem evF_eq {x : Operand} {v : Value} (h : ev L x = some v) : evF L x = v := by simp [evF, h]
theorem knows1 {x : Operand} {v : Value} (h : ev L x = some v) : knows L [x] = true := by simp [knows, h]
theorem knows2 {x y : Operand} {v u : Value} (h : ev L x = some v) (h' : ev L y = some u) : knows L [x, y] = true := by simp [knows, h, h']
/-- The step. -/
theorem s_v {o : Oper} {v : Value} (h : Runs P L o w v) (hg : o.guard = none) (hd : o.dst = some d) (hn : Nat.blt d n = true) (k : WL P ops Q rest n ((d, v) :: L) w) : WL P ops Q (o :: rest) n L w :=
  s_op v hg hd hn h.knows h.run k
theorem r_load {p : Addr} {v : Value} (hx : ev L x = some (.pointer (some p))) (hl : (loadVar T p).run P w = .ok v w) : Runs P L { dst := dd, op := .load T x, type := typ, pos := pos, after := af, guard := gd } w v :=
  ⟨knows1 hx, by simp only [execOp, Instr.loadAt, evF_eq hx, Instr.sureAddr, Sem.run_bind, Sem.run_pure, Result.andThen_ok, hl]⟩
/-- A load of one cell of box `i`. -/
theorem r_get (i : Nat) {b o : Nat} {cs : Array Value} {T' : TypeId} {fz : Nat × Nat} {v : Value} (S : St X w0 m0 R m w) (hT : tyOf P T = some (z, s, by_, false))
    (hx : ev L x = some (.pointer (some ⟨b, o, none⟩))) (hi : R[i]? = some (b, .cells cs T' fz)) (hv : cs[o]? = some v) : Runs P L { dst := dd, op := .load T x, type := typ, pos := pos, after := af, guard := gd } w v :=
  r_load hx (ld1 hT (S.cell i hi hv))
/-- A load of an aggregate out of box `i`, from cell `o` on. -/
theorem r_getk (i : Nat) {b o : Nat} {cs : Array Value} {vs : List Value} {T' : TypeId} {fz : Nat × Nat} (S : St X w0 m0 R m w) (hT : tyOf P T = some (z, s, by_, true))
    (hx : ev L x = some (.pointer (some ⟨b, o, none⟩))) (hi : R[i]? = some (b, .cells cs T' fz)) (hs : vs.length = s) (hv : (cs.toList.drop o).take s = vs) : Runs P L { dst := dd, op := .load T x, type := typ, pos := pos, after := af, guard := gd } w (.agg vs.toArray) :=
  r_load hx (ldk hT hs fun j v hj => by
    rw [add_none]
    refine S.cell i hi ?_
    rw [← hv] at hj
    rw [List.getElem?_take] at hj
    split at hj
    · simpa using hj
    · cases hj)
theorem r_move {v : Value} (hx : ev L x = some v) : Runs P L { dst := dd, op := .move x, type := typ, pos := pos, after := af, guard := gd } w v :=
  ⟨knows1 hx, by simp only [execOp, evF_eq hx, Sem.run_pure]⟩
theorem r_assign {v : Value} (hx : ev L x = some v) : Runs P L { dst := dd, op := .assign x, type := typ, pos := pos, after := af, guard := gd } w v :=
  ⟨knows1 hx, by simp only [execOp, evF_eq hx, Sem.run_pure]⟩

/-! ### Steps over memory -/
/-- A store of one cell of box `i`. -/
theorem s_set (i : Nat) {b o : Nat} {cs : Array Value} {T' : TypeId} {v : Value} (S : St X w0 m0 R m w) (hT : tyOf P T = some (z, 1, by_, g))
    (hx : ev L x = some (.pointer (some ⟨b, o, none⟩))) (hy : ev L y = some v) (hv : v.oneCell' = true) (hi : R[i]? = some (b, .cells cs T')) (ho : Nat.blt o cs.size = true) {R' : Boxes} (hR : R.set i (b, .cells (cs.setIfInBounds o v) T') = R')
    (k : ∀ w', St X w0 m0 R' m w' → WL P ops Q rest n L w') : WL P ops Q ({ dst := none, op := .store T x y, type := typ, pos := pos, after := af, guard := none } :: rest) n L w := by
  obtain ⟨w', hr, hb, hw⟩ := st1 (P := P) (w := w) hT hv (S.boxes i _ hi).2.1 (by simpa [Nat.blt_eq] using ho)
  exact s_do rfl rfl (knows2 hx hy) (by simp only [execOp, Instr.storeAt, evF_eq hx, evF_eq hy, Instr.sureAddr, Sem.run_bind, Sem.run_pure, Result.andThen_ok, hr]) (k w' (hR ▸ S.write i hi hb hw))
/-- A store of an aggregate into box `i`, from cell `o` on. -/
theorem s_setk (i : Nat) {b o : Nat} {cs : Array Value} {T' : TypeId} {vs : List Value} (S : St X w0 m0 R m w) (hT : tyOf P T = some (z, s, by_, g))
    (hx : ev L x = some (.pointer (some ⟨b, o, none⟩))) (hy : ev L y = some (.agg vs.toArray)) (hl : vs.length = s) (hv : ∀ v ∈ vs, v.oneCell' = true) (hi : R[i]? = some (b, .cells cs T')) (ho : Nat.ble (o + s) cs.size = true) {R' : Boxes} (hR : R.set i (b, .cells (putL cs o vs) T') = R')
    (k : ∀ w', St X w0 m0 R' m w' → WL P ops Q rest n L w') : WL P ops Q ({ dst := none, op := .store T x y, type := typ, pos := pos, after := af, guard := none } :: rest) n L w := by
  obtain ⟨w', hr, hb, hw⟩ := stk (P := P) (w := w) hT hl hv (S.boxes i _ hi).2.1 (by simpa [Nat.ble_eq] using ho)
  exact s_do rfl rfl (knows2 hx hy) (by simp only [execOp, Instr.storeAt, evF_eq hx, evF_eq hy, Instr.sureAddr, Sem.run_bind, Sem.run_pure, Result.andThen_ok, hr]) (k w' (hR ▸ S.write i hi hb hw))
/-- `box`: a variable that lies in memory. -/
theorem s_box {v : Value} {cs : Array Value} (S : St X w0 m0 R m w) (hx : ev L x = some v) (hcs : v.cells = cs) (hn : Nat.blt d n = true)
    (k : ∀ w' b, St X w0 m0 ((b, .cells cs T) :: R) m w' → WL P ops Q rest n ((d, .pointer (some ⟨b, 0, none⟩)) :: L) w') :
    WL P ops Q ({ dst := some d, op := .box T x, type := typ, pos := pos, after := af, guard := none } :: rest) n L w := by
  subst hcs
  exact s_op (.pointer (some ⟨w.heap.size, 0, none⟩)) rfl rfl hn (knows1 hx) (w' := w.alloc (.cells v.cells T)) (by simp [execOp, Instr.box, newVar, newRow, evF_eq hx]) (k _ _ (S.box _))
/-- `alloc`: one with its zero value. -/
theorem s_alloc {cs : Array Value} (S : St X w0 m0 R m w) (hT : tyOf P T = some (z, s, by_, g)) (hcs : z.cells = cs) (hn : Nat.blt d n = true)
    (k : ∀ w' b, St X w0 m0 ((b, .cells cs T) :: R) m w' → WL P ops Q rest n ((d, .pointer (some ⟨b, 0, none⟩)) :: L) w') :
    WL P ops Q ({ dst := some d, op := .alloc T, type := typ, pos := pos, after := af, guard := none } :: rest) n L w := by
  subst hcs
  exact s_op (.pointer (some ⟨w.heap.size, 0, none⟩)) rfl rfl hn rfl (w' := w.alloc (.cells z.cells T)) (by simp [execOp, Instr.alloc, newVar, newRow, run_zero hT]) (k _ _ (S.box _))
end
end Gw
namespace Gw
open Go Go.RowKit

section
variable {P : Program} {T : TypeId} {w : World}
theorem wrap_i64 {n : Int} (h : -9223372036854775808 ≤ n ∧ n ≤ 9223372036854775807) : IntKind.i64.wrap n = n := IntWalk.i64_in n h
theorem b_add {i j : Int} (h : -9223372036854775808 ≤ i + j ∧ i + j ≤ 9223372036854775807) (w : World) : (binOp .add T (.int .i64 i) (.int .i64 j)).run P w = .ok (.int .i64 (i + j)) w := by
  simp only [binOp, Op.intArith, wrap_i64 h]; rfl
theorem b_sub {i j : Int} (h : -9223372036854775808 ≤ i - j ∧ i - j ≤ 9223372036854775807) (w : World) : (binOp .sub T (.int .i64 i) (.int .i64 j)).run P w = .ok (.int .i64 (i - j)) w := by
  simp only [binOp, Op.intArith, wrap_i64 h]; rfl
theorem b_mul {i j : Int} (h : -9223372036854775808 ≤ i * j ∧ i * j ≤ 9223372036854775807) (w : World) : (binOp .mul T (.int .i64 i) (.int .i64 j)).run P w = .ok (.int .i64 (i * j)) w := by
  simp only [binOp, Op.intArith, wrap_i64 h]; rfl
theorem b_quo {i j : Int} (hi : 0 ≤ i) (hi2 : i ≤ 9223372036854775807) (h : 1 ≤ j) (w : World) : (binOp .quo T (.int .i64 i) (.int .i64 j)).run P w = .ok (.int .i64 (i / j)) w := by
  have e : i.tdiv j = i / j := Int.tdiv_eq_ediv_of_nonneg hi
  have h2 : i / j ≤ i := Int.ediv_le_self _ hi
  have h3 : 0 ≤ i / j := Int.ediv_nonneg hi (by omega)
  simp only [binOp, Op.intDiv, if_neg (show ¬ j = 0 by omega), e, wrap_i64 (n := i / j) ⟨by omega, by omega⟩]; rfl
theorem b_rem {i j : Int} (h : j ≠ 0) (w : World) : (binOp .rem T (.int .i64 i) (.int .i64 j)).run P w = .ok (.int .i64 (i.tmod j)) w := by
  simp only [binOp, Op.intDiv, if_neg h]; rfl
theorem b_lss {k : IntKind} {i j : Int} (w : World) : (binOp .lss T (.int k i) (.int k j)).run P w = .ok (.bool (decide (i < j))) w := by simp [binOp, Op.intCmp]
theorem b_leq {k : IntKind} {i j : Int} (w : World) : (binOp .leq T (.int k i) (.int k j)).run P w = .ok (.bool (decide (i ≤ j))) w := by simp [binOp, Op.intCmp]
theorem b_gtr {k : IntKind} {i j : Int} (w : World) : (binOp .gtr T (.int k i) (.int k j)).run P w = .ok (.bool (decide (j < i))) w := by simp [binOp, Op.intCmp]
theorem b_geq {k : IntKind} {i j : Int} (w : World) : (binOp .geq T (.int k i) (.int k j)).run P w = .ok (.bool (decide (j ≤ i))) w := by simp [binOp, Op.intCmp]
theorem b_eql {k : IntKind} {i j : Int} (w : World) : (binOp .eql T (.int k i) (.int k j)).run P w = .ok (.bool (decide (i = j))) w := by
  simp [binOp, Op.intCmp]; rfl
theorem b_neq {k : IntKind} {i j : Int} (w : World) : (binOp .neq T (.int k i) (.int k j)).run P w = .ok (.bool (!decide (i = j))) w := by
  simp [binOp, Op.intCmp]; rfl
theorem run_equalIn_bool {i j : Bool} (hT : P.underlying T = some .bool) (d : Nat) (w : World) : (Op.equalIn (d + 1) T (.bool i) (.bool j)).run P w = .ok (i == j) w := by
  simp [Op.equalIn, run_underlying hT]
theorem bb_eql {i j : Bool} (hT : P.underlying T = some .bool) (w : World) : (binOp .eql T (.bool i) (.bool j)).run P w = .ok (.bool (i == j)) w := by
  simp only [binOp, Op.equal, Sem.run_bind, show Op.maxDepth = 9999 + 1 from rfl, run_equalIn_bool hT, Result.andThen_ok, Sem.run_pure]
theorem bb_neq {i j : Bool} (hT : P.underlying T = some .bool) (w : World) : (binOp .neq T (.bool i) (.bool j)).run P w = .ok (.bool (!(i == j))) w := by
  simp only [binOp, Op.equal, Sem.run_bind, show Op.maxDepth = 9999 + 1 from rfl, run_equalIn_bool hT, Result.andThen_ok, Sem.run_pure]
end

/-- A string of bytes, as a value. -/
def str (l : List UInt8) : Value := .string ⟨l.toArray⟩
theorem str_toList (l : List UInt8) : (⟨l.toArray⟩ : ByteArray).toList = l := by
  simp [ByteArray.toList_eq]
theorem str_size (l : List UInt8) : (⟨l.toArray⟩ : ByteArray).size = l.length := by
  simp [ByteArray.size]
section
variable {P : Program} {T : TypeId}
theorem bs_eql {i j : List UInt8} (w : World) : (binOp .eql T (str i) (str j)).run P w = .ok (.bool (decide (i = j))) w := by
  simp only [binOp, str, Op.stringOp, str_toList, show (i == j) = decide (i = j) by rw [Bool.eq_iff_iff]; simp]; rfl
theorem bs_neq {i j : List UInt8} (w : World) : (binOp .neq T (str i) (str j)).run P w = .ok (.bool (!decide (i = j))) w := by
  simp only [binOp, str, Op.stringOp, str_toList, show (i == j) = decide (i = j) by rw [Bool.eq_iff_iff]; simp]; rfl
theorem bs_lss {i j : List UInt8} (w : World) : (binOp .lss T (str i) (str j)).run P w = .ok (.bool (Op.bytesLess i j)) w := by
  simp only [binOp, str, Op.stringOp, str_toList]; rfl
theorem bs_add {i j : List UInt8} (h : i.length + j.length ≤ 9223372036854775807) (w : World) : (binOp .add T (str i) (str j)).run P w = .ok (str (i ++ j)) w := by
  simp only [binOp, str, Op.stringOp, str_size]
  rw [if_neg (by show ¬ ((i.length + j.length : Nat) : Int) > 9223372036854775807; omega)]
  simp only [Sem.run_pure, Result.ok.injEq, Value.string.injEq, and_true]
  simp [ByteArray.ext_iff]
end

section
variable {P : Program} {ops : Array Oper} {Q : Exit → Act → World → Prop} {rest : List Oper} {n : Nat} {L : Slots} {a : Act} {w w0 : World} {X : List Nat} {R : Boxes} {m m0 : Mem}
variable {d T T2 : Nat} {dd : Option Tmp} {x y c : Operand} {typ : TypeId} {pos : String} {af : Array Edge} {gd : Option (Nat × Bool)} {z : Value} {s by_ : Nat} {g : Bool}
theorem s_end {next : Act → World → Prop} (h : WN next n L w) : WL P ops (Exit.then next Q) [] n L w := h
/-- An operator on two integers, two bools, two strings. -/
theorem r_ii {op : BinOp} {k k' : IntKind} {i j : Int} {v : Value} (hx : ev L x = some (.int k i)) (hy : ev L y = some (.int k' j)) (hr : ∀ w, (binOp op T (.int k i) (.int k' j)).run P w = .ok v w) :
    Runs P L { dst := dd, op := .binOp op T x y T2, type := typ, pos := pos, after := af, guard := gd } w v :=
  ⟨knows2 hx hy, by
    have hg : (eqGuard op T x y (.int k i) (.int k' j)).run P w = .ok () w := by
      unfold eqGuard; cases op <;> rfl
    simp only [execOp, evF_eq hx, evF_eq hy, Sem.run_bind, hg, hr, Result.andThen_ok, Sem.run_pure]⟩
theorem r_bb {op : BinOp} {i j : Bool} {v : Value} (hx : ev L x = some (.bool i)) (hy : ev L y = some (.bool j)) (hr : ∀ w, (binOp op T (.bool i) (.bool j)).run P w = .ok v w) :
    Runs P L { dst := dd, op := .binOp op T x y T2, type := typ, pos := pos, after := af, guard := gd } w v :=
  ⟨knows2 hx hy, by
    have hg : (eqGuard op T x y (.bool i) (.bool j)).run P w = .ok () w := by
      unfold eqGuard; cases op <;> rfl
    simp only [execOp, evF_eq hx, evF_eq hy, Sem.run_bind, hg, hr, Result.andThen_ok, Sem.run_pure]⟩
theorem r_ss {op : BinOp} {i j : List UInt8} {v : Value} (hx : ev L x = some (str i)) (hy : ev L y = some (str j)) (hr : ∀ w, (binOp op T (str i) (str j)).run P w = .ok v w) :
    Runs P L { dst := dd, op := .binOp op T x y T2, type := typ, pos := pos, after := af, guard := gd } w v :=
  ⟨knows2 hx hy, by
    have hg : (eqGuard op T x y (str i) (str j)).run P w = .ok () w := by
      unfold eqGuard str; cases op <;> rfl
    simp only [execOp, evF_eq hx, evF_eq hy, Sem.run_bind, hg, hr, Result.andThen_ok, Sem.run_pure]⟩
theorem r_not {i : Bool} (hx : ev L x = some (.bool i)) : Runs P L { dst := dd, op := .unOp .not T x, type := typ, pos := pos, after := af, guard := gd } w (.bool (!i)) :=
  ⟨knows1 hx, by simp only [execOp, evF_eq hx, Op.unary, Sem.run_bind, Result.andThen_ok, Sem.run_pure]⟩
theorem r_pick {t : Bool} {u v : Value} (hc : ev L c = some (.bool t)) (hx : ev L x = some u) (hy : ev L y = some v) : Runs P L { dst := dd, op := .pick c x y, type := typ, pos := pos, after := af, guard := gd } w (if t then u else v) :=
  ⟨by simp [knowsOp, opnds, knows, hc, hx, hy], by simp only [execOp, evF_eq hc, evF_eq hx, evF_eq hy, asBool, Sem.run_bind, Result.andThen_ok, Sem.run_pure]⟩
theorem r_pickT {u v : Value} (hc : ev L c = some (.bool true)) (hx : ev L x = some u) (hy : ev L y = some v) : Runs P L { dst := dd, op := .pick c x y, type := typ, pos := pos, after := af, guard := gd } w u := r_pick hc hx hy
theorem r_pickF {u v : Value} (hc : ev L c = some (.bool false)) (hx : ev L x = some u) (hy : ev L y = some v) : Runs P L { dst := dd, op := .pick c x y, type := typ, pos := pos, after := af, guard := gd } w v := r_pick hc hx hy
/-- `x && y`, `x || y`. -/
theorem r_and {t u : Bool} (hc : ev L c = some (.bool t)) (hx : ev L x = some (.bool u)) (hy : ev L y = some (.bool false)) : Runs P L { dst := dd, op := .pick c x y, type := typ, pos := pos, after := af, guard := gd } w (.bool (t && u)) := by
  have := r_pick (P := P) (dd := dd) (typ := typ) (pos := pos) (af := af) (gd := gd) (w := w) hc hx hy
  cases t <;> exact this
theorem r_or {t u : Bool} (hc : ev L c = some (.bool t)) (hx : ev L x = some (.bool true)) (hy : ev L y = some (.bool u)) : Runs P L { dst := dd, op := .pick c x y, type := typ, pos := pos, after := af, guard := gd } w (.bool (t || u)) := by
  have := r_pick (P := P) (dd := dd) (typ := typ) (pos := pos) (af := af) (gd := gd) (w := w) hc hx hy
  cases t <;> exact this
theorem r_nilCheck {p : Addr} (hx : ev L x = some (.pointer (some p))) : Runs P L { dst := dd, op := .nilCheck x, type := typ, pos := pos, after := af, guard := gd } w (.pointer (some p)) :=
  ⟨knows1 hx, by simp only [execOp, evF_eq hx, Sem.run_pure]⟩
/-- The offset of field `f` of struct type `T`, if the field has cells. -/
def fldOf (P : Program) (T f : Nat) : Option Nat :=
  match P.underlying T with
  | some (.struct fs) => match fs[f]? with
    | some fd => match P.info? fd.type with | some i => if i.size = 0 then none else some fd.offset | none => none
    | none => none
  | _ => none
theorem r_fieldAddr {f o b o' : Nat} (hx : ev L x = some (.pointer (some ⟨b, o, none⟩))) (hf : fldOf P T f = some o') : Runs P L { dst := dd, op := .fieldAddr T x f, type := typ, pos := pos, after := af, guard := gd } w (.pointer (some ⟨b, o + o', none⟩)) :=
  ⟨knows1 hx, by
    unfold fldOf at hf
    split at hf
    case h_2 => cases hf
    rename_i fs hu
    split at hf
    case h_2 => cases hf
    rename_i fd hfd
    split at hf
    case h_2 => cases hf
    rename_i i hi
    split at hf
    · cases hf
    rename_i hs
    obtain rfl := Option.some.inj hf
    simp [execOp, Instr.fieldAt, run_underlying hu, hfd, evF_eq hx, Instr.sureAddr, fieldPlace, Go.sizeOf, typeInfo, hi, hs, add_none]⟩
/-- .. of the variable's beginning. -/
theorem r_fieldAddr0 {f b o' : Nat} (hx : ev L x = some (.pointer (some ⟨b, 0, none⟩))) (hf : fldOf P T f = some o') : Runs P L { dst := dd, op := .fieldAddr T x f, type := typ, pos := pos, after := af, guard := gd } w (.pointer (some ⟨b, o', none⟩)) := by
  have := r_fieldAddr (P := P) (dd := dd) (typ := typ) (pos := pos) (af := af) (gd := gd) (w := w) hx hf
  rwa [Nat.zero_add] at this
/-- Part `i` of a tuple. -/
theorem r_extract {i : Nat} {vs : Array Value} {v : Value} (hx : ev L x = some (.tuple vs)) (hv : vs[i]? = some v) : Runs P L { dst := dd, op := .extract x i, type := typ, pos := pos, after := af, guard := gd } w v :=
  ⟨knows1 hx, by simp [execOp, evF_eq hx, Instr.extract, hv]⟩
/-- A struct put together. -/
theorem r_build {ps : Array (Nat × Operand)} {cs : Array Value} (hk : knowsOp L (.build T ps) = true) (hr : ∀ w, (Instr.build T (ps.map fun (i, x) => (i, evF L x))).run P w = .ok (.agg cs) w) :
    Runs P L { dst := dd, op := .build T ps, type := typ, pos := pos, after := af, guard := gd } w (.agg cs) :=
  ⟨hk, by simp only [execOp, hr, Sem.run_bind, Result.andThen_ok, Sem.run_pure]⟩
/-- A field of a struct's value. -/
theorem r_field {f : Nat} {cs : Array Value} {v : Value} (hx : ev L x = some (.agg cs)) (hr : ∀ w, (Instr.field T (.agg cs) f).run P w = .ok v w) : Runs P L { dst := dd, op := .field T x f, type := typ, pos := pos, after := af, guard := gd } w v :=
  ⟨knows1 hx, by simp only [execOp, evF_eq hx, hr, Sem.run_bind, Result.andThen_ok, Sem.run_pure]⟩
/-- A function with a body. -/
def callable (P : Program) (f : FuncId) : Bool := match P.funcs[f]? with | some fn => !fn.body.isNone && !(fn.name == "runtime.NumGoroutine") | none => false
theorem run_callFunc {f : FuncId} (hf : callable P f = true) (vs : Array Value) (w : World) : (callFunc f vs).run P w = .ok (.enter f vs) w := by
  unfold callable at hf
  cases h : P.funcs[f]? with
  | none => rw [h] at hf; cases hf
  | some fn =>
    rw [h] at hf
    simp only [Bool.and_eq_true, Bool.not_eq_true'] at hf
    simp only [callFunc, Sem.run_bind, run_program, Result.andThen_ok, h, hf.2, hf.1, Bool.false_eq_true, if_false, Sem.run_pure]
/-- A call of function `f`. -/
theorem s_call {f : FuncId} {args : Array Operand} {ats : Array TypeId} {vs : Array Value} (hk : knows L args.toList = true) (hv : args.map (evF L) = vs) (hf : callable P f = true)
    {Rl : Value → World → Prop} (hc : Calls P f vs w fun e w' => ∃ v, e = .returned v ∧ Rl v w') (hn : Nat.blt d n = true)
    (h : ∀ v w', Rl v w' → WL P ops Q rest n ((d, v) :: L) w') :
    WL P ops Q ({ dst := some d, op := .call { callee := .value (.func f), args := args, argTypes := ats }, type := typ, pos := pos, after := af, guard := none } :: rest) n L w :=
  s_enter rfl rfl hn (by simpa [knowsOp, opnds, callL, knows, ev] using hk) (by
    have hv' : args.map (evF L) = vs := hv
    have e : evF L (.func f) = .func (.func f) #[] #[] := rfl
    simp only [execOp, resolve, e, Deferred.ofValue, Sem.run_bind, Sem.run_pure, Result.andThen_ok, invoke]
    rw [← hv', Array.append_empty, Array.empty_append]
    exact run_callFunc hf _ _) hc h
end
end Gw
namespace Gw
open Go Go.RowKit

/-! ### Slices -/
class Upr {α : Type} (Rel : Mem → List Value → α → Prop) : Prop where
  up : ∀ {m m' : Mem} {cs : List Value} {x : α}, m.Le m' → Rel m cs x → Rel m' cs x
/-- What does not look into memory. -/
def Enc {α : Type} (e : α → List Value) : Mem → List Value → α → Prop := fun _ cs x => cs = e x
instance {α : Type} (e : α → List Value) : Upr (Enc e) := ⟨fun _ h => h⟩
/-- The slice at `oa` with this capacity has the elements `xs`, each of `k` cells that `Rel` tells of; `e` bytes an element. -/
structure SlA {α : Type} (k e : Nat) (Rel : Mem → List Value → α → Prop) (m : Mem) (oa : Option Addr) (cap : Nat) (xs : List α) : Prop where
  le : xs.length ≤ cap
  capb : cap ≤ 9223372036854775807
  row : xs = [] ∨ ∃ b off arr T fz, oa = some ⟨b, off, none⟩ ∧ m b = some (.cells arr T fz) ∧
    ∀ i (h : i < xs.length), ∃ cs : List Value, cs.length = k ∧ (∀ j, j < k → arr[off + i * k + j]? = cs[j]?) ∧ Rel m cs xs[i]
section
variable {α : Type} {k e : Nat} {Rel : Mem → List Value → α → Prop} {m m' : Mem} {oa : Option Addr} {cap : Nat} {xs : List α}
theorem SlA.up [Upr Rel] (F : SlA k e Rel m oa cap xs) (h : m.Le m') : SlA k e Rel m' oa cap xs :=
  ⟨F.le, F.capb, F.row.imp id fun ⟨b, off, arr, T, fz, h1, h2, h3⟩ => ⟨b, off, arr, T, fz, h1, h _ _ h2, fun i hi => let ⟨cs, h4, h5, h6⟩ := h3 i hi; ⟨cs, h4, h5, Upr.up h h6⟩⟩⟩
theorem SlA.none : SlA k e Rel m oa 0 ([] : List α) := ⟨by simp, by simp, .inl rfl⟩
theorem SlA.nil (h : cap ≤ 9223372036854775807) : SlA k e Rel m oa cap ([] : List α) := ⟨by simp, h, .inl rfl⟩
theorem SlA.len1 (F : SlA k e Rel m oa cap xs) (he : 1 ≤ e) : xs.length ≤ 9223372036854775807 := Nat.le_trans F.le F.capb
/-- Element `i`, in the world. -/
theorem SlA.at (F : SlA k e Rel m oa cap xs) {w : World} (hm : Sub m w) {i : Nat} (hi : i < xs.length) : ∃ b off, oa = some ⟨b, off, Option.none⟩ ∧ ∃ cs : List Value, cs.length = k ∧ Rel m cs xs[i] ∧
    ∀ j v, cs[j]? = some v → w.cell? ⟨b, off + i * k + j, Option.none⟩ = some v := by
  rcases F.row with h | ⟨b, off, arr, T, fz, h1, h2, h3⟩
  · subst h; simp at hi
  · obtain ⟨cs, h4, h5, h6⟩ := h3 i hi
    refine ⟨b, off, h1, cs, h4, h6, fun j v hv => ?_⟩
    have hj : j < k := by
      rcases Nat.lt_or_ge j k with h | h
      · exact h
      · rw [List.getElem?_eq_none (by omega)] at hv; cases hv
    simp only [World.cell?, hm _ _ h2]
    simp [h5 j hj, hv]
theorem SlA.drop (F : SlA k e Rel m oa cap xs) (l : Nat) (hl : l ≤ xs.length) : SlA k e Rel m (if cap = l then oa else oa.map (·.add (l * k))) (cap - l) (xs.drop l) := by
  refine ⟨by have := F.le; simp; omega, by have := F.capb; omega, ?_⟩
  rcases F.row with h | ⟨b, off, arr, T, fz, h1, h2, h3⟩
  · subst h; left; simp
  · by_cases hx : xs.length = l
    · left; simp [hx]
    · right
      have hc : cap ≠ l := by have := F.le; omega
      refine ⟨b, off + l * k, arr, T, fz, by rw [if_neg hc, h1]; simp [add_none], h2, fun i hi => ?_⟩
      simp at hi
      obtain ⟨cs, h4, h5, h6⟩ := h3 (l + i) (by omega)
      refine ⟨cs, h4, fun j hj => ?_, by simpa using h6⟩
      rw [← h5 j hj]
      congr 1
      rw [Nat.add_mul]; omega
theorem SlA.take (F : SlA k e Rel m oa cap xs) (h : Nat) : SlA k e Rel m oa cap (xs.take h) := by
  refine ⟨by have := F.le; simp; omega, F.capb, ?_⟩
  rcases F.row with h' | ⟨b, off, arr, T, fz, h1, h2, h3⟩
  · subst h'; left; simp
  · right
    refine ⟨b, off, arr, T, fz, h1, h2, fun i hi => ?_⟩
    simp at hi
    obtain ⟨cs, h4, h5, h6⟩ := h3 i (by omega)
    exact ⟨cs, h4, h5, by simpa using h6⟩
/-- Seen otherwise. -/
theorem SlA.mono {β : Type} {Rel' : Mem → List Value → β → Prop} {ys : List β} (F : SlA k e Rel m oa cap xs) (hl : ys.length = xs.length) (h : ∀ i (hi : i < xs.length) (hi' : i < ys.length) cs, Rel m cs xs[i] → Rel' m cs ys[i]) : SlA k e Rel' m oa cap ys :=
  ⟨by rw [hl]; exact F.le, F.capb, F.row.imp (fun h => by subst h; exact List.length_eq_zero_iff.1 (by simpa using hl)) fun ⟨b, off, arr, T, fz, h1, h2, h3⟩ =>
    ⟨b, off, arr, T, fz, h1, h2, fun i hi => let ⟨cs, h4, h5, h6⟩ := h3 i (hl ▸ hi); ⟨cs, h4, h5, h _ _ _ _ h6⟩⟩⟩
end

def eByte (x : UInt8) : List Value := [.int .u8 x.toNat]
def eStr (x : List UInt8) : List Value := [str x]
def eInt (x : Int) : List Value := [.int .i64 x]
def I64 (n : Int) : Prop := -9223372036854775808 ≤ n ∧ n ≤ 9223372036854775807
/-- Bytes. -/
abbrev Bys (m : Mem) (oa : Option Addr) (cap : Nat) (xs : List UInt8) : Prop := SlA 1 1 (Enc eByte) m oa cap xs
/-- Strings (each shorter than the model's bound of memory). -/
def RStr (m : Mem) (cs : List Value) (x : List UInt8) : Prop := cs = [str x] ∧ x.length ≤ 9223372036854775807
instance : Upr RStr := ⟨fun _ h => h⟩
abbrev Strs (m : Mem) (oa : Option Addr) (cap : Nat) (xs : List (List UInt8)) : Prop := SlA 1 16 RStr m oa cap xs
def RInt (m : Mem) (cs : List Value) (x : Int) : Prop := cs = [.int .i64 x] ∧ I64 x
instance : Upr RInt := ⟨fun _ h => h⟩
abbrev Ints (m : Mem) (oa : Option Addr) (cap : Nat) (xs : List Int) : Prop := SlA 1 8 RInt m oa cap xs
/-- Lists of bytes. -/
def RBys (m : Mem) (cs : List Value) (x : List UInt8) : Prop := ∃ oa cap, cs = [.slice oa x.length cap] ∧ Bys m oa cap x
instance : Upr RBys := ⟨fun h ⟨oa, cap, h1, h2⟩ => ⟨oa, cap, h1, h2.up h⟩⟩
abbrev BysL (m : Mem) (oa : Option Addr) (cap : Nat) (xs : List (List UInt8)) : Prop := SlA 1 24 RBys m oa cap xs

section
variable {α : Type} {k e : Nat} {Rel : Mem → List Value → α → Prop}
variable {P : Program} {ops : Array Oper} {Q : Exit → Act → World → Prop} {rest : List Oper} {n : Nat} {L : Slots} {a : Act} {w w0 : World} {X : List Nat} {R : Boxes} {m m0 : Mem}
variable {d T E : Nat} {dd : Option Tmp} {x y c : Operand} {typ : TypeId} {pos : String} {af : Array Edge} {gd : Option (Nat × Bool)} {z : Value} {s by_ : Nat} {g : Bool}
variable {oa : Option Addr} {cap : Nat} {xs : List α}

theorem r_len {ln : Nat} (hx : ev L x = some (.slice oa ln cap)) (hT : P.underlying T = some (.slice E)) :
    Runs P L { dst := dd, op := .call { callee := .builtin .len, args := #[x], argTypes := #[T] }, type := typ, pos := pos, after := af, guard := gd } w (.int .i64 (ln : Int)) :=
  ⟨by simpa [knowsOp, opnds, callL] using knows1 hx, by simp [execOp, resolve, invoke, builtin, Builtin.len_, run_underlying hT, evF_eq hx, goInt]⟩
theorem r_lenS {l : List UInt8} (hx : ev L x = some (str l)) (hT : P.underlying T = some .string) :
    Runs P L { dst := dd, op := .call { callee := .builtin .len, args := #[x], argTypes := #[T] }, type := typ, pos := pos, after := af, guard := gd } w (.int .i64 (l.length : Int)) :=
  ⟨by simpa [knowsOp, opnds, callL] using knows1 hx, by
    have e := evF_eq hx
    simp only [str] at e
    simp [execOp, resolve, invoke, builtin, Builtin.len_, run_underlying hT, e, goInt, str_size]⟩
theorem r_cap {ln : Nat} (hx : ev L x = some (.slice oa ln cap)) (hT : P.underlying T = some (.slice E)) :
    Runs P L { dst := dd, op := .call { callee := .builtin .cap, args := #[x], argTypes := #[T] }, type := typ, pos := pos, after := af, guard := gd } w (.int .i64 (cap : Int)) :=
  ⟨by simpa [knowsOp, opnds, callL] using knows1 hx, by simp [execOp, resolve, invoke, builtin, Builtin.cap_, run_underlying hT, evF_eq hx, goInt]⟩
theorem r_min {i j : Int} (hx : ev L x = some (.int .i64 i)) (hy : ev L y = some (.int .i64 j)) {ats : Array TypeId} :
    Runs P L { dst := dd, op := .call { callee := .builtin .min, args := #[x, y], argTypes := ats }, type := typ, pos := pos, after := af, guard := gd } w (.int .i64 (min i j)) :=
  ⟨by simpa [knowsOp, opnds, callL] using knows2 hx hy, by
    have : (if j < i then j else i) = min i j := by rw [Int.min_def]; split <;> split <;> omega
    simp [execOp, resolve, invoke, builtin, Builtin.min_, Builtin.min2, evF_eq hx, evF_eq hy, this]⟩
theorem r_max {i j : Int} (hx : ev L x = some (.int .i64 i)) (hy : ev L y = some (.int .i64 j)) {ats : Array TypeId} :
    Runs P L { dst := dd, op := .call { callee := .builtin .max, args := #[x, y], argTypes := ats }, type := typ, pos := pos, after := af, guard := gd } w (.int .i64 (max i j)) :=
  ⟨by simpa [knowsOp, opnds, callL] using knows2 hx hy, by
    have : (if j > i then j else i) = max i j := by rw [Int.max_def]; split <;> split <;> omega
    simp [execOp, resolve, invoke, builtin, Builtin.max_, Builtin.max2, evF_eq hx, evF_eq hy]
    rw [Int.max_def]; split <;> split <;> first | rfl | omega⟩
theorem run_equalIn_nil {ln : Nat} (hT : P.underlying T = some (.slice E)) (d : Nat) (w : World) : (Op.equalIn (d + 1) T (.slice oa ln cap) (.slice none 0 0)).run P w = .ok oa.isNone w := by
  cases oa <;> simp [Op.equalIn, run_underlying hT]
/-- `s == nil`. -/
theorem r_eqnil {ln : Nat} (hx : ev L x = some (.slice oa ln cap)) (hy : ev L y = some (.slice none 0 0)) (hT : P.underlying T = some (.slice E)) :
    Runs P L { dst := dd, op := .binOp .eql T x y T, type := typ, pos := pos, after := af, guard := gd } w (.bool oa.isNone) :=
  ⟨knows2 hx hy, by
    have hg : (eqGuard .eql T x y (.slice oa ln cap) (.slice none 0 0)).run P w = .ok () w := by unfold eqGuard; rfl
    have he := fun d => run_equalIn_nil (oa := oa) (ln := ln) (cap := cap) hT d w
    have hb : (binOp .eql T (.slice oa ln cap) (.slice none 0 0)).run P w = .ok (.bool oa.isNone) w := by
      simp only [binOp, Op.equal, Sem.run_bind, show Op.maxDepth = 9999 + 1 from rfl, he, Result.andThen_ok, Sem.run_pure]
    simp only [execOp, evF_eq hx, evF_eq hy, Sem.run_bind, hg, hb, Result.andThen_ok, Sem.run_pure]⟩
/-- The place of element `i`. -/
theorem r_indexAddr {b off ln i : Nat} (hx : ev L x = some (.slice (some ⟨b, off, none⟩) ln cap)) {j : Int} (hy : ev L y = some (.int .i64 j)) (hj : j = (i : Int)) (hi : i < ln) (hT : P.underlying T = some (.slice E)) (hE : tyOf P E = some (z, s, by_, g)) :
    Runs P L { dst := dd, op := .indexAddr T x y, type := typ, pos := pos, after := af, guard := gd } w (.pointer (some ⟨b, off + i * s, none⟩)) :=
  ⟨knows2 hx hy, by
    subst hj
    simp [execOp, Instr.indexAt, evF_eq hx, evF_eq hy, asIntOf, run_underlying hT, run_sizeOf hE, hi, add_none]⟩
/-- `x[l:h]`, `x[l:]`, `x[:h]`. -/
theorem r_slice {lo hi : Operand} {il ih : Int} {ln l h : Nat} (hx : ev L x = some (.slice oa ln cap)) (hlo : ev L lo = some (.int .i64 il)) (hhi : ev L hi = some (.int .i64 ih)) (el : il = (l : Int)) (eh : ih = (h : Int)) (h1 : l ≤ h) (h2 : h ≤ cap)
    (hT : P.underlying T = some (.slice E)) (hE : tyOf P E = some (z, s, by_, g)) :
    Runs P L { dst := dd, op := .slice T x (some lo) (some hi) none, type := typ, pos := pos, after := af, guard := gd } w (.slice (if cap = l then oa else oa.map (·.add (l * s))) (h - l) (cap - l)) :=
  ⟨by simp [knowsOp, opnds, optL, knows, hx, hlo, hhi], by
    subst el; subst eh
    simp [execOp, Instr.sliceAt, Instr.slice, Instr.sliceBounds, Instr.sliceBound, evF_eq hx, evF_eq hlo, evF_eq hhi, asIntOf, run_underlying hT, run_sizeOf hE, h1, h2]⟩
theorem r_sliceL {lo : Operand} {il : Int} {ln l : Nat} (hx : ev L x = some (.slice oa ln cap)) (hlo : ev L lo = some (.int .i64 il)) (el : il = (l : Int)) (h1 : l ≤ ln)
    (hT : P.underlying T = some (.slice E)) (hE : tyOf P E = some (z, s, by_, g)) :
    Runs P L { dst := dd, op := .slice T x (some lo) none none, type := typ, pos := pos, after := af, guard := gd } w (.slice (if cap = l then oa else oa.map (·.add (l * s))) (ln - l) (cap - l)) :=
  ⟨by simp [knowsOp, opnds, optL, knows, hx, hlo], by
    subst el
    simp [execOp, Instr.sliceAt, Instr.slice, Instr.sliceBounds, Instr.sliceBound, evF_eq hx, evF_eq hlo, asIntOf, run_underlying hT, run_sizeOf hE, h1]⟩
theorem r_sliceH {hi : Operand} {ih : Int} {ln h : Nat} (hx : ev L x = some (.slice oa ln cap)) (hhi : ev L hi = some (.int .i64 ih)) (eh : ih = (h : Int)) (h2 : h ≤ cap)
    (hT : P.underlying T = some (.slice E)) (hE : tyOf P E = some (z, s, by_, g)) :
    Runs P L { dst := dd, op := .slice T x none (some hi) none, type := typ, pos := pos, after := af, guard := gd } w (.slice oa h cap) :=
  ⟨by simp [knowsOp, opnds, optL, knows, hx, hhi], by
    subst eh
    cases oa <;> simp [execOp, Instr.sliceAt, Instr.slice, Instr.sliceBounds, Instr.sliceBound, evF_eq hx, evF_eq hhi, asIntOf, run_underlying hT, run_sizeOf hE, h2, Addr.add]⟩
end
end Gw
namespace Gw
open Go Go.RowKit

/-! ### A slice that the activation appends to -/
/-- The value `v` is a slice of `n` elements (`k` cells each) of the activation's own, that hold `cells`; its row, if it has one, is the box `Ro`. -/
inductive OwnV (k : Nat) : Boxes → Value → Nat → List Value → Prop
  | nil : OwnV k [] (.slice none 0 0) 0 []
  | row {b : Nat} {arr : Array Value} {E : TypeId} {n cap : Nat} {cells : List Value} (h1 : cells.length = n * k) (h2 : arr.size = cap * k) (h3 : n ≤ cap) (h4 : arr.toList.take (n * k) = cells) (h5 : cap ≤ 9223372036854775807) :
      OwnV k [(b, .cells arr E)] (.slice (some ⟨b, 0, none⟩) n cap) n cells

theorem zeroCells_size (z : Array Value) (n : Nat) : (Builtin.zeroCells z n).size = n * z.size := by simp [Builtin.zeroCells]
theorem toList_putL (cs : Array Value) (o : Nat) (vs : List Value) (h : o + vs.length ≤ cs.size) : (putL cs o vs).toList.take (o + vs.length) = cs.toList.take o ++ vs := by
  apply List.ext_getElem?
  intro j
  rw [List.getElem?_take]
  have hg := get_putL cs o vs h j
  rw [← Array.getElem?_toList, ← Array.getElem?_toList] at hg
  by_cases h1 : j < o
  · rw [if_pos (by omega), hg, if_pos h1, List.getElem?_append_left (by simp; omega), List.getElem?_take, if_pos h1]
  · by_cases h2 : j < o + vs.length
    · rw [if_pos h2, hg, if_neg h1, if_pos h2, List.getElem?_append_right (by simp; omega)]
      congr 1
      simp
      omega
    · rw [if_neg h2]
      symm
      rw [List.getElem?_eq_none]
      simp
      omega

def notInt : TypeDesc → Bool
  | .int _ => false
  | _ => true
section
variable {P : Program} {w w0 : World} {X : List Nat} {Ro R : Boxes} {m m0 : Mem} {T U E k e n n2 : Nat} {z v xv : Value} {g : Bool} {cells new : List Value}
theorem run_append_own {us : TypeDesc} (hT : P.underlying T = some (.slice E)) (hE : tyOf P E = some (z, k, e, g)) (hz : z.cells.size = k) (he : 1 ≤ e) (hU : P.underlying U = some us) (hus : notInt us = true)
    (S : St X w0 m0 (Ro ++ R) m w) (O : OwnV k Ro v n cells) (hlen : (Builtin.lenOf xv).run P w = .ok n2 w) (hnew : ∀ w', w'.heap = w.heap → (Builtin.firstCells k n2 xv).run P w' = .ok new.toArray w') (hl : new.length = n2 * k)
    (h1 : ∀ u ∈ new, u.oneCell' = true) (hb : (n + n2) * e ≤ 140737488355328) (typ : TypeId) :
    ∃ Ro' v' w', (Builtin.append_ #[T, U] typ #[v, xv]).run P w = .ok v' w' ∧ St X w0 m0 (Ro' ++ R) m w' ∧ OwnV k Ro' v' (n + n2) (cells ++ new) := by
  obtain ⟨i, u, hi, hu, hiz, hik, hie, hg⟩ := tyOf_parts hE
  have pre : ∀ (base : Option Addr) (cap : Nat), v = .slice base n cap → (Builtin.append_ #[T, U] typ #[v, xv]).run P w =
      (if n + n2 ≤ cap then (do
          let new ← Builtin.firstCells k n2 xv
          if let some a := base then storeCells (a.add (n * k)) new.toList
          pure (.slice base (n + n2) cap) : Sem Value)
        else do
          if ((n + n2 : Nat) : Int) > IntKind.i64.max ∧ (false = true ∨ (← typeInfo E).bytes = 0) then runtimePanic (.error "growslice: len out of range")
          if Builtin.nextslicecap (n + n2) cap * (← typeInfo E).bytes > 2 ^ 48 then (if false then runtimePanic (.error "growslice: len out of range") else do
            if !(← Builtin.mayShare k n n2 base xv) then mark .noRoom
            unsupported (.resourceLimit "append: a slice or a string whose bytes no memory bears"))
          let newCap ← choose (.appendCap (n + n2) cap E)
          askRoom (newCap * (← typeInfo E).bytes)
          let old ← Builtin.firstCells k n v
          let new ← Builtin.firstCells k n2 xv
          let rest := Builtin.zeroCells (← zeroValue E).cells (newCap - (n + n2))
          pure (.slice (some (← newRow E (old ++ new ++ rest))) (n + n2) newCap)).run P w := by
    intro base cap hv
    subst hv
    simp only [Builtin.append_]
    simp only [show (#[T, U] : Array TypeId)[0]? = some T from rfl, show (#[T, U] : Array TypeId)[1]? = some U from rfl, show (#[Value.slice base n cap, xv] : Array Value)[0]? = some (Value.slice base n cap) from rfl, show (#[Value.slice base n cap, xv] : Array Value)[1]? = some xv from rfl]
    cases us <;> first
      | (exfalso; revert hus; simp [notInt]; done)
      | (simp only [Sem.run_bind, run_underlying hT, run_underlying hU, Result.andThen_ok, run_sizeOf hE, Sem.run_pure, Bool.false_eq_true, if_false, hlen, Bool.not_false, if_true]; done)
      | (simp only [Sem.run_bind, run_underlying hT, run_underlying hU, Result.andThen_ok, run_sizeOf hE, Sem.run_pure, Bool.false_eq_true, if_false, hlen, Bool.not_false, if_true]; split <;> rfl)
  cases O with
  | nil =>
    rw [pre none 0 rfl]
    by_cases h0 : n2 = 0
    · subst h0
      have hn : new = [] := List.length_eq_zero_iff.1 (by simpa using hl)
      subst hn
      rw [if_pos (by omega)]
      refine ⟨[], .slice none 0 0, w, ?_, S, by simpa using OwnV.nil⟩
      simp [hnew w rfl]
    · rw [if_neg (by omega)]
      have hcap : (0 : Nat) < 0 + n2 := by omega
      have hfit := growslice_fits (need := 0 + n2) (old := 0) (bytes := e) hcap hb
      have hmul : n2 * 1 ≤ n2 * e := Nat.mul_le_mul_left _ he
      have h63 : ¬ (((0 + n2 : Nat) : Int) > IntKind.i64.max ∧ (false = true ∨ e = 0)) := by
        rintro ⟨_, h | h⟩
        · cases h
        · omega
      have h48 : ¬ (Builtin.nextslicecap (0 + n2) 0 * e > 2 ^ 48) := by omega
      have hm63 : 0 + n2 ≤ 140737488355328 := by
        have : (0 + n2) * 1 ≤ (0 + n2) * e := Nat.mul_le_mul_left _ he
        omega
      let nc := (Question.appendCap (0 + n2) 0 E).cut (w.tape w.drawn (.appendCap (0 + n2) 0 E))
      have hnc : 0 + n2 ≤ nc := by show 0 + n2 ≤ _; simp only [Question.cut, nc]; omega
      have hnc2 : nc ≤ 9223372036854775807 := by
        have h := Nat.mod_lt (w.tape w.drawn (.appendCap (0 + n2) 0 E)) (show 0 < 2 ^ 63 - (0 + n2) by omega)
        show (0 + n2) + _ % (2 ^ 63 - (0 + n2)) ≤ _
        omega
      have hr : (Sem.run P (do
          if ((0 + n2 : Nat) : Int) > IntKind.i64.max ∧ (false = true ∨ (← typeInfo E).bytes = 0) then runtimePanic (.error "growslice: len out of range")
          if Builtin.nextslicecap (0 + n2) 0 * (← typeInfo E).bytes > 2 ^ 48 then (if false then runtimePanic (.error "growslice: len out of range") else do
            if !(← Builtin.mayShare k 0 n2 none xv) then mark .noRoom
            unsupported (.resourceLimit "append: a slice or a string whose bytes no memory bears"))
          let newCap ← choose (.appendCap (0 + n2) 0 E)
          askRoom (newCap * (← typeInfo E).bytes)
          let old ← Builtin.firstCells k 0 (.slice none 0 0)
          let new ← Builtin.firstCells k n2 xv
          let rest := Builtin.zeroCells (← zeroValue E).cells (newCap - (0 + n2))
          pure (.slice (some (← newRow E (old ++ new ++ rest))) (0 + n2) newCap) : Sem Value) w) =
          .ok (.slice (some ⟨w.heap.size, 0, none⟩) (0 + n2) nc) (w.drew.alloc (.cells (#[] ++ new.toArray ++ Builtin.zeroCells z.cells (nc - (0 + n2))) E)) := by
        have hq : (choose (.appendCap (0 + n2) 0 E)).run P w = .ok nc w.drew := by
          simp only [run_choose, Question.forced, Bool.false_eq_true, if_false]; rfl
        have hti : ∀ w, (typeInfo E).run P w = .ok i w := fun w => by simp [typeInfo, hi]
        have hold : ∀ w, (Builtin.firstCells k 0 (.slice none 0 0)).run P w = .ok #[] w := fun w => by simp [Builtin.firstCells]
        simp only [Sem.run_bind, hti, Result.andThen_ok, hie, if_neg h63, if_neg h48, Sem.run_pure, hq, run_askRoom, hold, hnew w.drew rfl, run_zero hE, newRow, run_newObj]
        rfl
      rw [hr]
      refine ⟨[(w.heap.size, .cells (#[] ++ new.toArray ++ Builtin.zeroCells z.cells (nc - (0 + n2))) E)], _, _, rfl, (S.step (Bel.drew [] w)).box _, OwnV.row (by simpa using hl) ?_ hnc ?_ hnc2⟩
      · have h5 : n2 * k + (nc - (0 + n2)) * k = nc * k := by
          rw [← Nat.add_mul]; congr 1; omega
        simpa [zeroCells_size, hz, hl] using h5
      · simp [← hl]
  | @row b arr E' n cap cells c1 c2 c3 c4 c5 =>
    rw [pre (some ⟨b, 0, none⟩) cap rfl]
    have hbx := S.boxes 0 _ rfl
    by_cases h0 : n + n2 ≤ cap
    · rw [if_pos h0]
      have hmul : (n + n2) * k ≤ cap * k := Nat.mul_le_mul_right _ h0
      have hle : n * k + new.length ≤ arr.size := by rw [hl, c2, ← Nat.add_mul]; exact hmul
      obtain ⟨w', hr, hbel, hh⟩ := run_storeCells (P := P) new w (n * k) 0 arr hbx.2.1 (by simpa using hle) h1
      refine ⟨[(b, .cells (putL arr (n * k) new) E')], .slice (some ⟨b, 0, none⟩) (n + n2) cap, w', ?_, S.write 0 rfl hbel (by simpa using hh), OwnV.row ?_ ?_ h0 ?_ c5⟩
      · simp only [Sem.run_bind, hnew w rfl, Result.andThen_ok, add_none, Nat.zero_add, hr, Sem.run_pure]
      · simp [c1, hl, Nat.add_mul]
      · rw [size_putL, c2]
      · rw [Nat.add_mul, ← hl, toList_putL _ _ _ hle, c4]
    · rw [if_neg h0]
      have hcap : cap < n + n2 := by omega
      have hfit := growslice_fits (need := n + n2) (old := cap) (bytes := e) hcap hb
      have h63 : ¬ (((n + n2 : Nat) : Int) > IntKind.i64.max ∧ (false = true ∨ e = 0)) := by
        rintro ⟨_, h | h⟩
        · cases h
        · omega
      have h48 : ¬ (Builtin.nextslicecap (n + n2) cap * e > 2 ^ 48) := by omega
      have hm63 : n + n2 ≤ 140737488355328 := by
        have : (n + n2) * 1 ≤ (n + n2) * e := Nat.mul_le_mul_left _ he
        omega
      let nc := (Question.appendCap (n + n2) cap E).cut (w.tape w.drawn (.appendCap (n + n2) cap E))
      have hnc : n + n2 ≤ nc := by show n + n2 ≤ _; simp only [Question.cut, nc]; omega
      have hnc2 : nc ≤ 9223372036854775807 := by
        have h := Nat.mod_lt (w.tape w.drawn (.appendCap (n + n2) cap E)) (show 0 < 2 ^ 63 - (n + n2) by omega)
        show (n + n2) + _ % (2 ^ 63 - (n + n2)) ≤ _
        omega
      have hold : ∀ w', w'.heap = w.heap → (Builtin.firstCells k n (.slice (some ⟨b, 0, none⟩) n cap)).run P w' = .ok cells.toArray w' := fun w' hw' => by
        simp only [Builtin.firstCells]
        have := run_loadCells_list (P := P) (w := w') ⟨b, 0, none⟩ cells fun j v hv => by
          rw [add_none]
          simp only [World.cell?, hw', hbx.2.1]
          rw [← c4, List.getElem?_take] at hv
          split at hv
          · simpa using hv
          · cases hv
        rw [c1] at this
        exact this
      have hr : (Sem.run P (do
          if ((n + n2 : Nat) : Int) > IntKind.i64.max ∧ (false = true ∨ (← typeInfo E).bytes = 0) then runtimePanic (.error "growslice: len out of range")
          if Builtin.nextslicecap (n + n2) cap * (← typeInfo E).bytes > 2 ^ 48 then (if false then runtimePanic (.error "growslice: len out of range") else do
            if !(← Builtin.mayShare k n n2 (some ⟨b, 0, none⟩) xv) then mark .noRoom
            unsupported (.resourceLimit "append: a slice or a string whose bytes no memory bears"))
          let newCap ← choose (.appendCap (n + n2) cap E)
          askRoom (newCap * (← typeInfo E).bytes)
          let old ← Builtin.firstCells k n (.slice (some ⟨b, 0, none⟩) n cap)
          let new ← Builtin.firstCells k n2 xv
          let rest := Builtin.zeroCells (← zeroValue E).cells (newCap - (n + n2))
          pure (.slice (some (← newRow E (old ++ new ++ rest))) (n + n2) newCap) : Sem Value) w) =
          .ok (.slice (some ⟨w.heap.size, 0, none⟩) (n + n2) nc) (w.drew.alloc (.cells (cells.toArray ++ new.toArray ++ Builtin.zeroCells z.cells (nc - (n + n2))) E)) := by
        have hq : (choose (.appendCap (n + n2) cap E)).run P w = .ok nc w.drew := by
          simp only [run_choose, Question.forced, Bool.false_eq_true, if_false]; rfl
        have hti : ∀ w, (typeInfo E).run P w = .ok i w := fun w => by simp [typeInfo, hi]
        simp only [Sem.run_bind, hti, Result.andThen_ok, hie, if_neg h63, if_neg h48, Sem.run_pure, hq, run_askRoom, hold w.drew rfl, hnew w.drew rfl, run_zero hE, newRow, run_newObj]
        rfl
      rw [hr]
      refine ⟨[(w.heap.size, .cells (cells.toArray ++ new.toArray ++ Builtin.zeroCells z.cells (nc - (n + n2))) E)], _, _, rfl, ?_, OwnV.row (by simp [c1, hl, Nat.add_mul]) ?_ hnc ?_ hnc2⟩
      · have := ((S.step (Bel.drew [] w)).box (.cells (cells.toArray ++ new.toArray ++ Builtin.zeroCells z.cells (nc - (n + n2))) E)).drop 1
        simpa using this
      · simp only [Array.size_append, zeroCells_size, hz, List.size_toArray, hl, c1]
        rw [← Nat.add_mul, ← Nat.add_mul]
        congr 1; omega
      · simp only [Array.toList_append]
        rw [List.take_append_of_le_length (by simp [c1, hl, Nat.add_mul])]
        rw [List.take_of_length_le (by simp [c1, hl, Nat.add_mul])]
end
end Gw
namespace Gw
open Go Go.RowKit

section
variable {α : Type} {k e : Nat} {Rel : Mem → List Value → α → Prop}
variable {P : Program} {ops : Array Oper} {Q : Exit → Act → World → Prop} {rest : List Oper} {n : Nat} {L : Slots} {a : Act} {w w0 : World} {X : List Nat} {R Ro : Boxes} {m m0 : Mem}
variable {d d2 T U E n1 n2 : Nat} {dd : Option Tmp} {x y c : Operand} {typ typ2 : TypeId} {pos pos2 : String} {af af2 : Array Edge} {gd : Option (Nat × Bool)} {z v xv : Value} {s by_ : Nat} {g : Bool}
variable {oa : Option Addr} {cap : Nat} {xs : List α} {cells new : List Value} {us : TypeDesc}

/-! ### What is appended -/
/-- The cells of a slice that stays. -/
theorem SlA.src (F : SlA k e Rel m oa cap xs) (hm : Sub m w) : ∃ new : List Value, new.length = xs.length * k ∧ (∀ w', w'.heap = w.heap → (Builtin.firstCells k xs.length (.slice oa xs.length cap)).run P w' = .ok new.toArray w') ∧
    ∀ i (h : i < xs.length), Rel m ((new.drop (i * k)).take k) xs[i] := by
  rcases F.row with h | ⟨b, off, arr, T, fz, h1, h2, h3⟩
  · subst h
    refine ⟨[], by simp, fun w' _ => ?_, fun i h => by simp at h⟩
    cases oa with
    | none => simp [Builtin.firstCells]
    | some p => simp [Builtin.firstCells, loadCells, loadCellsFrom]
  · subst h1
    have hcell : ∀ i, i < xs.length * k → ∃ v, arr[off + i]? = some v := fun i hi => by
      have hk : 0 < k := Nat.pos_of_ne_zero fun e => by subst e; simp at hi
      have hq : i / k < xs.length := Nat.div_lt_of_lt_mul (by rw [Nat.mul_comm]; exact hi)
      obtain ⟨cs, h4, h5, h6⟩ := h3 (i / k) hq
      have hr : i % k < k := Nat.mod_lt _ hk
      have := h5 (i % k) hr
      have e1 : off + i / k * k + i % k = off + i := by
        have := Nat.div_add_mod i k
        rw [Nat.mul_comm] at this
        omega
      rw [e1] at this
      exact ⟨cs[i % k]'(by omega), by rw [this, List.getElem?_eq_getElem (by omega)]⟩
    have hlen : ((arr.toList.drop off).take (xs.length * k)).length = xs.length * k := by
      rcases Nat.eq_zero_or_pos (xs.length * k) with h0 | h0
      · rw [h0]; rfl
      · obtain ⟨v, hv⟩ := hcell (xs.length * k - 1) (by omega)
        have := (Array.getElem?_eq_some_iff.1 hv).1
        simp only [List.length_take, List.length_drop, Array.length_toList]
        omega
    have hget : ∀ j, j < xs.length * k → ((arr.toList.drop off).take (xs.length * k))[j]? = arr[off + j]? := fun j hj => by
      rw [List.getElem?_take, if_pos hj, List.getElem?_drop, Array.getElem?_toList]
    refine ⟨(arr.toList.drop off).take (xs.length * k), hlen, fun w' hw' => ?_, fun i hi => ?_⟩
    · have := run_loadCells_list (P := P) (w := w') ⟨b, off, Option.none⟩ ((arr.toList.drop off).take (xs.length * k)) fun j v hv => by
        have hj : j < xs.length * k := by
          rcases Nat.lt_or_ge j (xs.length * k) with h | h
          · exact h
          · rw [List.getElem?_eq_none (by rw [hlen]; exact h)] at hv; cases hv
        rw [add_none]
        simp only [World.cell?, hw', hm _ _ h2]
        rw [hget j hj] at hv
        simpa using hv
      rw [hlen] at this
      simpa only [Builtin.firstCells] using this
    · obtain ⟨cs, h4, h5, h6⟩ := h3 i hi
      have : (((arr.toList.drop off).take (xs.length * k)).drop (i * k)).take k = cs := by
        apply List.ext_getElem?
        intro j
        rw [List.getElem?_take]
        by_cases hj : j < k
        · rw [if_pos hj, List.getElem?_drop, hget _ (by
            have : (i + 1) * k ≤ xs.length * k := Nat.mul_le_mul_right _ hi
            rw [Nat.add_mul] at this; omega), ← h5 j hj]
          congr 1; omega
        · rw [if_neg hj, List.getElem?_eq_none (by omega)]
      rw [this]; exact h6
/-- The cells of a box. -/
theorem St.src (S : St X w0 m0 R m w) (i : Nat) {b cap' : Nat} {cs : List Value} {fz : Nat × Nat} {E' : TypeId} {n2 : Nat} (h : R[i]? = some (b, .cells cs.toArray E' fz)) (hl : cs.length = n2 * k) :
    ∀ w', w'.heap = w.heap → (Builtin.firstCells k n2 (.slice (some ⟨b, 0, none⟩) n2 cap')).run P w' = .ok cs.toArray w' := fun w' hw' => by
  have hb := (S.boxes i _ h).2.1
  have := run_loadCells_list (P := P) (w := w') ⟨b, 0, none⟩ cs fun j v hv => by
    rw [add_none]
    simp only [World.cell?, hw', hb]
    simpa using hv
  rw [hl] at this
  simpa only [Builtin.firstCells] using this
theorem src_str (l : List UInt8) (w' : World) : (Builtin.firstCells 1 l.length (str l)).run P w' = .ok (l.map fun b => Value.int .u8 b.toNat).toArray w' := by
  simp [Builtin.firstCells, str, ByteArray.extract, ByteArray.copySlice]

/-! ### Steps -/
theorem St.front (S : St X w0 m0 R m w) (i : Nat) {p : Nat × Obj} (h : R[i]? = some p) : St X w0 m0 (p :: R.eraseIdx i) m w := by
  have hi : i < R.length := by
    rcases Nat.lt_or_ge i R.length with h' | h'
    · exact h'
    · simp [List.getElem?_eq_none h'] at h
  refine S.reindex (fun j => if j = 0 then i else if j ≤ i then j - 1 else j) (fun j k hjk => ?_) fun j q hq => ?_
  · have h' : (if j = 0 then i else if j ≤ i then j - 1 else j) = (if k = 0 then i else if k ≤ i then k - 1 else k) := hjk
    split at h' <;> split at h' <;> (try split at h') <;> (try split at h') <;> omega
  · show R[if j = 0 then i else if j ≤ i then j - 1 else j]? = some q
    cases j with
    | zero => simp at hq; subst hq; simpa using h
    | succ j =>
      simp only [List.getElem?_cons_succ, List.getElem?_eraseIdx] at hq
      rw [if_neg (by omega)]
      by_cases hj : j < i
      · rw [if_pos hj] at hq; rw [if_pos (by omega)]; simpa using hq
      · rw [if_neg hj] at hq; rw [if_neg (by omega)]; exact hq
theorem St.swap {R1 R2 : Boxes} (S : St X w0 m0 (R1 ++ (R2 ++ R)) m w) : St X w0 m0 (R2 ++ (R1 ++ R)) m w := by
  refine S.reindex (fun j => if j < R2.length then j + R1.length else if j < R2.length + R1.length then j - R2.length else j) (fun j k hjk => ?_) fun j q hq => ?_
  · have h' : (if j < R2.length then j + R1.length else if j < R2.length + R1.length then j - R2.length else j) = (if k < R2.length then k + R1.length else if k < R2.length + R1.length then k - R2.length else k) := hjk
    split at h' <;> split at h' <;> (try split at h') <;> (try split at h') <;> omega
  · show (R1 ++ (R2 ++ R))[if j < R2.length then j + R1.length else if j < R2.length + R1.length then j - R2.length else j]? = some q
    by_cases h1 : j < R2.length
    · rw [List.getElem?_append_left h1] at hq
      rw [if_pos h1, List.getElem?_append_right (by omega), Nat.add_sub_cancel, List.getElem?_append_left h1]; exact hq
    · rw [List.getElem?_append_right (by omega)] at hq
      rw [if_neg h1]
      by_cases h2 : j < R2.length + R1.length
      · rw [List.getElem?_append_left (by omega)] at hq
        rw [if_pos h2, List.getElem?_append_left (by omega)]; exact hq
      · rw [List.getElem?_append_right (by omega)] at hq
        rw [if_neg h2, List.getElem?_append_right (by omega), List.getElem?_append_right (by omega), ← hq]
        congr 1; omega
/-- `buildSlice`: a row written out. -/
theorem s_buildSlice {ps : Array (Nat × Operand)} {cs : List Value} (S : St X w0 m0 R m w) (hk : knowsOp L (.buildSlice T n1 ps) = true)
    (hr : ∀ w, (Instr.buildSlice T n1 (ps.map fun (i, x) => (i, evF L x))).run P w = .ok (.slice (some ⟨w.heap.size, 0, none⟩) n1 n1) (w.alloc (.cells cs.toArray E))) (hn : Nat.blt d n = true)
    (h : ∀ w' b, w0.heap.size ≤ b → St X w0 m0 ((b, .cells cs.toArray E) :: R) m w' → WL P ops Q rest n ((d, .slice (some ⟨b, 0, none⟩) n1 n1) :: L) w') :
    WL P ops Q ({ dst := some d, op := .buildSlice T n1 ps, type := typ, pos := pos, after := af, guard := none } :: rest) n L w :=
  s_op (.slice (some ⟨w.heap.size, 0, none⟩) n1 n1) rfl rfl hn hk (w' := w.alloc (.cells cs.toArray E)) (by simp only [execOp, hr, Sem.run_bind, Result.andThen_ok, Sem.run_pure]) (h _ _ S.bel.size (S.box _))
/-- `append(x, y...)`, x the activation's own. -/
theorem s_append (hT : P.underlying T = some (.slice E)) (hE : tyOf P E = some (z, k, e, g)) (hz : z.cells.size = k) (he : 1 ≤ e) (hU : P.underlying U = some us) (hus : notInt us = true)
    (S : St X w0 m0 (Ro ++ R) m w) (O : OwnV k Ro v n1 cells) (hx : ev L x = some v) (hy : ev L y = some xv) (hlen : (Builtin.lenOf xv).run P w = .ok n2 w) (hnew : ∀ w', w'.heap = w.heap → (Builtin.firstCells k n2 xv).run P w' = .ok new.toArray w') (hl : new.length = n2 * k)
    (h1 : ∀ u ∈ new, u.oneCell' = true) (hb : (n1 + n2) * e ≤ 140737488355328) (hn : Nat.blt d n = true)
    (h : ∀ Ro' v' w', St X w0 m0 (Ro' ++ R) m w' → OwnV k Ro' v' (n1 + n2) (cells ++ new) → WL P ops Q rest n ((d, v') :: L) w') :
    WL P ops Q ({ dst := some d, op := .call { callee := .builtin .append, args := #[x, y], argTypes := #[T, U] }, type := typ, pos := pos, after := af, guard := none } :: rest) n L w := by
  obtain ⟨Ro', v', w', hr, S', O'⟩ := run_append_own (P := P) hT hE hz he hU hus S O hlen hnew hl h1 hb typ
  exact s_op v' rfl rfl hn (by simpa [knowsOp, opnds, callL] using knows2 hx hy) (w' := w') (by
    simp only [execOp, resolve, invoke, builtin, Sem.run_bind, Sem.run_pure, Result.andThen_ok]
    rw [show (#[x, y] : Array Operand).map (evF L) = #[v, xv] by simp [evF_eq hx, evF_eq hy]]
    simp only [hr, Result.andThen_ok]) (h Ro' v' w' S' O')
/-- `append(x, y)` of one element, the element's row written out just ahead. -/
theorem s_append1 {ps : Array (Nat × Operand)} {cs : List Value} (hT : P.underlying T = some (.slice E)) (hE : tyOf P E = some (z, k, e, g)) (hz : z.cells.size = k) (he : 1 ≤ e)
    (S : St X w0 m0 (Ro ++ R) m w) (O : OwnV k Ro v n1 cells) (hx : ev L x = some v) (hxd : ev ((d, Value.slice (some ⟨w.heap.size, 0, none⟩) n2 n2) :: L) x = some v) (hk : knowsOp L (.buildSlice T n2 ps) = true)
    (hr : ∀ w, (Instr.buildSlice T n2 (ps.map fun (i, x) => (i, evF L x))).run P w = .ok (.slice (some ⟨w.heap.size, 0, none⟩) n2 n2) (w.alloc (.cells cs.toArray E))) (hl : cs.length = n2 * k)
    (h1 : ∀ u ∈ cs, u.oneCell' = true) (hb : (n1 + n2) * e ≤ 140737488355328) (hn : Nat.blt d n = true) (hn2 : Nat.blt d2 n = true)
    (h : ∀ Ro' v' w' u, St X w0 m0 (Ro' ++ R) m w' → OwnV k Ro' v' (n1 + n2) (cells ++ cs) → WL P ops Q rest n ((d2, v') :: (d, u) :: L) w') :
    WL P ops Q ({ dst := some d, op := .buildSlice T n2 ps, type := typ, pos := pos, after := af, guard := none } :: { dst := some d2, op := .call { callee := .builtin .append, args := #[x, .tmp d], argTypes := #[T, T] }, type := typ2, pos := pos2, after := af2, guard := none } :: rest) n L w := by
  refine s_op (.slice (some ⟨w.heap.size, 0, none⟩) n2 n2) rfl rfl hn hk (w' := w.alloc (.cells cs.toArray E)) (by simp only [execOp, hr, Sem.run_bind, Result.andThen_ok, Sem.run_pure]) ?_
  have S' := S.box (.cells cs.toArray E)
  have hs := S'.src (k := k) (P := P) (cap' := n2) 0 rfl hl
  have hd : ev ((d, Value.slice (some ⟨w.heap.size, 0, none⟩) n2 n2) :: L) (.tmp d) = some (.slice (some ⟨w.heap.size, 0, none⟩) n2 n2) := by simp [ev, lk]
  refine s_append hT hE hz he hT rfl (Ro := Ro) (R := R) (by simpa using S'.drop 0) O hxd hd (by simp [Builtin.lenOf]) hs hl h1 hb hn2 ?_
  intro Ro' v' w' S2 O2
  exact h Ro' v' w' _ S2 O2
theorem foldl_push (l : List UInt8) : ∀ r : ByteArray, (l.map fun x => (x.toNat : Int)).foldl (fun r n => r.push (UInt8.ofNat n.toNat)) r = ⟨r.data ++ l.toArray⟩ := by
  induction l with
  | nil => intro r; simp
  | cons c l ih => intro r; rw [List.map_cons, List.foldl_cons, ih]; simp [ByteArray.push]
theorem run_b2s {l : List UInt8} (F : Bys m oa cap l) (hm : Sub m w) : (Conv.bytesToString (.slice oa l.length cap)).run P w = .ok (str l) w := by
  obtain ⟨new, hl, hnew, hrel⟩ := F.src (P := P) hm
  have h2 : new = (l.map fun x => (x.toNat : Int)).map (Value.int .u8) := by
    apply List.ext_getElem
    · simp [hl]
    · intro i h1 h2
      have hi : i < l.length := by simpa [hl] using h1
      have := hrel i hi
      simp only [Enc, eByte, Nat.mul_one] at this
      have h3 := congrArg (fun q : List Value => q[0]?) this
      simp [List.getElem?_drop] at h3
      rw [List.getElem?_eq_getElem h1] at h3
      simpa using Option.some.inj h3
  cases oa with
  | none =>
    have : l = [] := by
      rcases F.row with h | ⟨b, off, arr, T, fz, h1, _⟩
      · exact h
      · cases h1
    subst this
    rfl
  | some p =>
    have hc := hnew w rfl
    simp only [Builtin.firstCells, Nat.mul_one] at hc
    rw [h2] at hc
    rw [run_bytesToString w p l.length cap _ hc, foldl_push]
    simp [str]
/-- Bytes as a string. -/
theorem r_b2s {l : List UInt8} {U T' : Nat} (hx : ev L x = some (.slice oa l.length cap)) (F : Bys m oa cap l) (hm : Sub m w) (hT : P.underlying T' = some (.slice E)) (hE : P.underlying E = some (.int .u8)) (hU : P.underlying U = some .string) :
    Runs P L { dst := dd, op := .convert T' U x, type := typ, pos := pos, after := af, guard := gd } w (str l) := by
  refine ⟨knows1 hx, ?_⟩
  have hb := run_b2s (P := P) F hm
  simp only [execOp, evF_eq hx, convert, Sem.run_bind, run_underlying hT, run_underlying hU, run_underlying hE, Result.andThen_ok, hb, Sem.run_pure]
/-- A string's bytes, in a row of their own. -/
theorem s_s2b {l : List UInt8} {U T' : Nat} (S : St X w0 m0 R m w) (hx : ev L x = some (str l)) (hl : l.length ≤ 140737488355328) (hT : P.underlying T' = some .string) (hU : P.underlying U = some (.slice E)) (hE : P.underlying E = some (.int .u8)) (hn : Nat.blt d n = true)
    (h : ∀ w' m' oa cap, m.Le m' → St X w0 m0 R m' w' → Bys m' oa cap l → WL P ops Q rest n ((d, .slice oa l.length cap) :: L) w') :
    WL P ops Q ({ dst := some d, op := .convert T' U x, type := typ, pos := pos, after := af, guard := none } :: rest) n L w := by
  let nc := (Question.appendCap l.length 0 E).cut (w.tape w.drawn (.appendCap l.length 0 E))
  have hnc : l.length ≤ nc := by show l.length ≤ _; simp only [Question.cut, nc]; omega
  have hnc2 : nc ≤ 9223372036854775807 := by
    have h := Nat.mod_lt (w.tape w.drawn (.appendCap l.length 0 E)) (show 0 < 2 ^ 63 - l.length by omega)
    show l.length + _ % (2 ^ 63 - l.length) ≤ _
    omega
  let arr : Array Value := (l.toArray.map fun b => Value.int .u8 b.toNat) ++ Array.replicate (nc - l.length) (.int .u8 0)
  let w1 := w.drew.alloc (.cells arr E)
  let w2 := w1.freeze ⟨w.heap.size, arr.size, none⟩ 1
  have hq : (choose (.appendCap l.length 0 E)).run P w = .ok nc w.drew := by
    simp only [run_choose, Question.forced, Bool.false_eq_true, if_false]; rfl
  have hsh : (shape w.heap.size).run P w1 = .ok (some (E, arr.size)) w1 := by
    simp only [run_shape, World.shape?]
    rw [show w1.heap[w.heap.size]? = some (.cells arr E) from heap_alloc_new w.drew _]
  have hr : (convert T' U (str l)).run P w = .ok (.slice (some ⟨w.heap.size, 0, none⟩) l.length nc) w2 := by
    simp only [str, convert, Sem.run_bind, run_underlying hT, run_underlying hU, run_underlying hE, Result.andThen_ok, Conv.stringToBytes, str_size, hq, newRow, run_newObj, Sem.run_pure, markStringish]
    simp only [World.alloc_eq]
    have e1 : w.drew.heap.size = w.heap.size := rfl
    rw [e1]
    rw [show (w.drew.alloc (.cells ((l.toArray.map fun b => Value.int .u8 b.toNat) ++ Array.replicate (nc - l.length) (.int .u8 0)) E)) = w1 from rfl, hsh]
    rfl
  have hh : ∀ k, w2.heap[k]? = if k = w.heap.size then some (.cells arr E (arr.size, arr.size + 1)) else w1.heap[k]? := fun k => by
    simp only [w2, World.freeze, Nat.one_ne_zero, if_false, Array.getElem?_modify]
    by_cases e : w.heap.size = k
    · subst e
      simp only [if_true]
      rw [show w1.heap[w.heap.size]? = some (.cells arr E) from heap_alloc_new w.drew _]
      simp
    · rw [if_neg e, if_neg (fun h => e h.symm)]
  have hsz : w2.heap.size = w1.heap.size := by simp [w2, World.freeze]
  have hbel : Bel [] w w2 := by
    have h1 : Bel [] w w1 := (Bel.drew [] w).trans (Bel.alloc [] w.drew _)
    refine ⟨rfl, rfl, rfl, by rw [hsz]; exact h1.size, fun k hk hx => ?_⟩
    rw [hh k, if_neg (by omega)]
    exact h1.block k hk hx
  have S' := S.grow hbel
  refine s_op (.slice (some ⟨w.heap.size, 0, none⟩) l.length nc) rfl rfl hn (knows1 hx) (w' := w2) (by simp only [execOp, evF_eq hx, Sem.run_bind, hr, Result.andThen_ok, Sem.run_pure]) (h w2 _ _ _ (S.mem.le_grow w2) S' ⟨hnc, hnc2, ?_⟩)
  right
  refine ⟨w.heap.size, 0, arr, E, (arr.size, arr.size + 1), rfl, ?_, fun i hi => ⟨eByte l[i], rfl, fun j hj => ?_, rfl⟩⟩
  · unfold grow
    rw [if_neg (by omega), hh, if_pos rfl]
  · have : j = 0 := by omega
    subst this
    rw [show 0 + i * 1 + 0 = i by omega]
    show ((l.toArray.map fun b => Value.int .u8 b.toNat) ++ Array.replicate (nc - l.length) (.int .u8 0))[i]? = some (.int .u8 (l[i].toNat : Int))
    rw [Array.getElem?_append_left (by simpa using hi)]
    simp [hi]

/-! ### A region that draws its order, and only looks -/
/-- What a class of worlds says. -/
def WQ (P : Program) (ops : Array Oper) (C : World → Prop) (F : Act → Prop) (rest : List Oper) (n : Nat) (L : Slots) : Prop := ∀ a, Has n L a → wpQuiet P ops C F rest a
theorem q_end {C : World → Prop} {F : Act → Prop} (h : ∀ a, Has n L a → F a) : WQ P ops C F [] n L := h
/-- An operation that leaves one value in every world of the class. -/
theorem q_v {C : World → Prop} {F : Act → Prop} {o : Oper} {v : Value} (h : ∀ w, C w → Runs P L o w v) (hk : knowsOp L o.op = true) (hg : o.guard = none) (hd : o.dst = some d) (hn : Nat.blt d n = true)
    (k : WQ P ops C F rest n ((d, v) :: L)) : WQ P ops C F (o :: rest) n L := fun a H => by
  unfold wpQuiet
  rw [if_pos (by simp [Region.wanted, hg])]
  refine ⟨v, fun w hw => ?_, ?_⟩
  · unfold Oper.quietAt
    rw [exec_has H hk, (h w hw).run]
    exact ⟨rfl, rfl⟩
  · rw [hd]; exact k _ (H.put hn v)
/-- A call whose result is one value in every world of the class. -/
theorem q_call {C : World → Prop} {F : Act → Prop} {f : FuncId} {args : Array Operand} {ats : Array TypeId} {vs : Array Value} {v : Value} (hk : knows L args.toList = true) (hv : args.map (evF L) = vs) (hf : callable P f = true)
    (hc : ∀ w, C w → Calls P f vs w fun e w' => e = .returned v ∧ C w') (hn : Nat.blt d n = true) (k : WQ P ops C F rest n ((d, v) :: L)) :
    WQ P ops C F ({ dst := some d, op := .call { callee := .value (.func f), args := args, argTypes := ats }, type := typ, pos := pos, after := af, guard := none } :: rest) n L := fun a H => by
  have hk' : knowsOp L (.call { callee := .value (.func f), args := args, argTypes := ats }) = true := by simpa [knowsOp, opnds, callL, knows, ev] using hk
  unfold wpQuiet
  rw [if_pos (by simp [Region.wanted])]
  refine ⟨v, fun w hw => ?_, k _ (H.put hn v)⟩
  unfold Oper.quietAt
  rw [exec_has H hk']
  have e : evF L (.func f) = .func (.func f) #[] #[] := rfl
  simp only [execOp, resolve, e, Deferred.ofValue, Sem.run_bind, Sem.run_pure, Result.andThen_ok, invoke]
  rw [Array.append_empty, Array.empty_append, run_callFunc hf, hv]
  exact ⟨rfl, hc w hw⟩
theorem q_on {C : World → Prop} {F : Act → Prop} {o : Oper} {i t : Nat} {b : Bool} (hg : o.guard = some (i, b)) (hi : (ops[i]?).bind (·.dst) = some t) (ht : lk L t = some (.bool b))
    (k : WQ P ops C F ({ o with guard := none } :: rest) n L) : WQ P ops C F (o :: rest) n L := fun a H => by
  replace k := k a H
  unfold wpQuiet at k ⊢
  have hw : Region.wanted o (yielded ops a.tmps) = true := by
    unfold Region.wanted
    rw [hg]
    simp only
    unfold yielded
    rw [hi]
    have h2 := H.get t _ ht
    simp only [Option.bind_some]
    rw [Array.getD_eq_getD_getElem?] at h2
    cases h3 : a.tmps[t]? with
    | none => rw [h3] at h2; simp [undef] at h2
    | some u => rw [h3] at h2; simp at h2; subst h2; simp
  rw [if_pos hw]
  rw [if_pos (show Region.wanted { o with guard := none } (yielded ops a.tmps) = true from rfl)] at k
  exact k
theorem q_off {C : World → Prop} {F : Act → Prop} {o : Oper} {i t : Nat} {b c : Bool} (hg : o.guard = some (i, b)) (hd : o.dst = some d) (hn : Nat.blt d n = true) (hi : (ops[i]?).bind (·.dst) = some t)
    (ht : lk L t = some (.bool c)) (hb : c = !b) (k : WQ P ops C F rest n ((d, undef) :: L)) : WQ P ops C F (o :: rest) n L := fun a H => by
  unfold wpQuiet
  have hw : Region.wanted o (yielded ops a.tmps) = false := by
    unfold Region.wanted
    rw [hg]
    simp only
    unfold yielded
    rw [hi]
    have h2 := H.get t _ ht
    simp only [Option.bind_some]
    rw [Array.getD_eq_getD_getElem?] at h2
    subst hb
    cases h3 : a.tmps[t]? with
    | none => simp
    | some u => rw [h3] at h2; simp at h2; subst h2; cases b <;> simp
  rw [if_neg (by rw [hw]; simp), hd]
  exact k _ (H.put hn undef)
/-- The region. -/
theorem c_quiet {y' : Code} {id : Nat} {l : List Oper} (S : St X w0 m0 R m w) (hm : P.follows .mixedOrders = true) (hB : Region.lexB .any l.toArray = true)
    (h : WQ P l.toArray (fun w' => St X w0 m0 R m w' ∧ Bel [] w w') (fun a => ∀ w', (St X w0 m0 R m w' ∧ Bel [] w w') → y'.wp P Q a w') l n L) : WC P (Code.seq (Code.region id l.toArray true) y') Q n L w := fun a H =>
  wp_seq (wp_region_quiet (C := fun w' => St X w0 m0 R m w' ∧ Bel [] w w') hm hB ⟨S.step (Bel.drew [] w), Bel.drew [] w⟩ (h a H))
theorem q_done {y' : Code} (h : ∀ w', St X w0 m0 R m w' → Bel [] w w' → WC P y' Q n L w') : WQ P ops (fun w' => St X w0 m0 R m w' ∧ Bel [] w w') (fun a => ∀ w', (St X w0 m0 R m w' ∧ Bel [] w w') → y'.wp P Q a w') [] n L :=
  fun a H w' hw => h w' hw.1 hw.2 a H
end
end Gw
namespace Gw
open Go Go.RowKit

/-- What a call comes to: it returns a value, it writes nothing that was there but `X`, and of the value and of what stays `Φ` holds. -/
def Ret (X : List Nat) (m : Mem) (w : World) (Φ : Mem → Value → Prop) : Ending → World → Prop := fun e w' => ∃ v, e = .returned v ∧ Bel X w w' ∧ Φ (grow m w w') v
/-- .. it returns this very value. -/
def RetV (X : List Nat) (w : World) (v : Value) : Ending → World → Prop := fun e w' => e = .returned v ∧ Bel X w w'
theorem RetV.ret {X : List Nat} {m : Mem} {w : World} {v : Value} {e : Ending} {w' : World} (h : RetV X w v e w') : Ret X m w (fun _ u => u = v) e w' := ⟨v, h.1, h.2, rfl⟩

section
variable {α : Type} {k e : Nat} {Rel : Mem → List Value → α → Prop}
variable {P : Program} {ops : Array Oper} {Q : Exit → Act → World → Prop} {rest : List Oper} {n : Nat} {L L' : Slots} {a : Act} {w w0 : World} {X : List Nat} {R Ro : Boxes} {m m0 : Mem}
variable {d d2 T U E n1 n2 : Nat} {dd : Option Tmp} {x y c : Operand} {typ typ2 : TypeId} {pos pos2 : String} {af af2 : Array Edge} {gd : Option (Nat × Bool)} {z v xv : Value} {s by_ : Nat} {g : Bool}
variable {oa : Option Addr} {cap : Nat} {xs : List α} {cells new : List Value} {us : TypeDesc}

theorem arrmap {f : Operand → Value} {as : Array Operand} {vs : Array Value} (h : as.toList.map f = vs.toList) : as.map f = vs := Array.ext' (by simpa using h)
/-- Entering a function. -/
theorem enterW {f : FuncId} {fn : Func} {c : Code} {args : List Value} {Rr : Ending → World → Prop} (hf : P.funcs[f]? = some fn) (hb : fn.body = some c) (hn : fn.ntmps = n) (hl : Nat.ble args.length n = true)
    (hL : slotsOf 0 args = L) (h : WC P c (bodyPost P fn Rr) n L w) : Calls P f args.toArray w Rr := enter hf hb hn hl (by rw [hL]; exact h)
/-- Leaving a function that gives a value. -/
theorem f_retV {fn : Func} {rs : List ResultVar} {vs : List Value} {v : Value} (S : St X w0 m0 R m w) (hr : fn.results = rs.toArray) (h : Res P L w rs vs) (hv : packV vs = v) : WE (bodyPost P fn (RetV X w0 v)) .ret n L w :=
  fun a H => ret_ok H hr h ⟨by rw [hv], S.bel⟩
theorem f_endV {fn : Func} {rs : List ResultVar} {vs : List Value} {v : Value} (S : St X w0 m0 R m w) (hr : fn.results = rs.toArray) (h : Res P L w rs vs) (hv : packV vs = v) : WE (bodyPost P fn (RetV X w0 v)) .normal n L w :=
  fun a H => ret_ok H hr h ⟨by rw [hv], S.bel⟩
/-- .. and what stays. -/
theorem f_ret {fn : Func} {rs : List ResultVar} {vs : List Value} {Φ : Mem → Value → Prop} (S : St X w0 m0 R m w) (hr : fn.results = rs.toArray) (h : Res P L w rs vs) (hv : m.Le (grow m0 w0 w) → Φ (grow m0 w0 w) (packV vs)) : WE (bodyPost P fn (Ret X m0 w0 Φ)) .ret n L w :=
  fun a H => ret_ok H hr h ⟨_, rfl, S.bel, hv S.le⟩
theorem f_end {fn : Func} {rs : List ResultVar} {vs : List Value} {Φ : Mem → Value → Prop} (S : St X w0 m0 R m w) (hr : fn.results = rs.toArray) (h : Res P L w rs vs) (hv : m.Le (grow m0 w0 w) → Φ (grow m0 w0 w) (packV vs)) : WE (bodyPost P fn (Ret X m0 w0 Φ)) .normal n L w :=
  fun a H => ret_ok H hr h ⟨_, rfl, S.bel, hv S.le⟩
/-- A result that lies in box `i`. -/
theorem Res.box {r : List ResultVar} {vs us : List Value} {t b : Nat} {cs : Array Value} {T' : TypeId} {fz : Nat × Nat} (i : Nat) (S : St X w0 m0 R m w) (h : lk L t = some (.pointer (some ⟨b, 0, none⟩))) (hT : tyOf P T = some (z, s, by_, true)) (hi : R[i]? = some (b, .cells cs T' fz))
    (hs : us.length = s) (hv : cs.toList.take s = us) (k : Res P L w r vs) : Res P L w (.cell t T :: r) (.agg us.toArray :: vs) :=
  .cell h (ldk hT hs fun j v hj => by
    rw [add_none]
    refine S.cell i hi ?_
    rw [← hv, List.getElem?_take] at hj
    split at hj
    · simpa using hj
    · cases hj) k
/-- .. of one cell. -/
theorem Res.box1 {r : List ResultVar} {vs : List Value} {u : Value} {t b : Nat} {cs : Array Value} {T' : TypeId} {fz : Nat × Nat} (i : Nat) (S : St X w0 m0 R m w) (h : lk L t = some (.pointer (some ⟨b, 0, none⟩))) (hT : tyOf P T = some (z, s, by_, false)) (hi : R[i]? = some (b, .cells cs T' fz))
    (hv : cs[0]? = some u) (k : Res P L w r vs) : Res P L w (.cell t T :: r) (u :: vs) := .cell h (ld1 hT (S.cell i hi hv)) k

/-- A call that gives a value. -/
theorem s_callV {f : FuncId} {args : Array Operand} {ats : Array TypeId} {vs : Array Value} {v : Value} (S : St X w0 m0 R m w) (hk : knows L args.toList = true) (hf : callable P f = true)
    (hc : Calls P f vs w (RetV [] w v)) (hv : args.toList.map (evF L) = vs.toList) (hn : Nat.blt d n = true) (h : ∀ w', St X w0 m0 R m w' → WL P ops Q rest n ((d, v) :: L) w') :
    WL P ops Q ({ dst := some d, op := .call { callee := .value (.func f), args := args, argTypes := ats }, type := typ, pos := pos, after := af, guard := none } :: rest) n L w :=
  s_call hk (arrmap hv) hf (Rl := fun u w' => u = v ∧ Bel [] w w') (hc.mono fun e w' ⟨he, hb⟩ => ⟨v, he, rfl, hb⟩) hn fun u w' ⟨hu, hb⟩ => by subst hu; exact h w' (S.step hb)
/-- A call that makes something that stays. -/
theorem s_callM {f : FuncId} {args : Array Operand} {ats : Array TypeId} {vs : Array Value} {Φ : Mem → Value → Prop} (S : St X w0 m0 R m w) (hk : knows L args.toList = true) (hf : callable P f = true)
    (hc : Calls P f vs w (Ret [] m w Φ)) (hv : args.toList.map (evF L) = vs.toList) (hn : Nat.blt d n = true) (h : ∀ w' m' u, m.Le m' → St X w0 m0 R m' w' → Φ m' u → WL P ops Q rest n ((d, u) :: L) w') :
    WL P ops Q ({ dst := some d, op := .call { callee := .value (.func f), args := args, argTypes := ats }, type := typ, pos := pos, after := af, guard := none } :: rest) n L w :=
  s_call hk (arrmap hv) hf (Rl := fun u w' => Bel [] w w' ∧ Φ (grow m w w') u) (hc.mono fun e w' ⟨v, he, hb, hΦ⟩ => ⟨v, he, hb, hΦ⟩) hn fun u w' ⟨hb, hΦ⟩ => h w' _ u (S.mem.le_grow w') (S.grow hb) hΦ
/-- A call of a value in a region that only looks. -/
theorem q_callV {F : Act → Prop} {f : FuncId} {args : Array Operand} {ats : Array TypeId} {vs : Array Value} {v : Value} {wx : World} (hk : knows L args.toList = true) (hf : callable P f = true)
    (hc : ∀ w, St X w0 m0 R m w → Calls P f vs w (RetV [] w v)) (hv : args.toList.map (evF L) = vs.toList) (hn : Nat.blt d n = true) (k : WQ P ops (fun w' => St X w0 m0 R m w' ∧ Bel [] wx w') F rest n ((d, v) :: L)) :
    WQ P ops (fun w' => St X w0 m0 R m w' ∧ Bel [] wx w') F ({ dst := some d, op := .call { callee := .value (.func f), args := args, argTypes := ats }, type := typ, pos := pos, after := af, guard := none } :: rest) n L :=
  q_call hk (arrmap hv) hf (fun w hw => (hc w hw.1).mono fun e w' ⟨he, hb⟩ => ⟨he, hw.1.step hb, hw.2.trans hb⟩) hn k

theorem s_appendA {A : Boxes} (hT : P.underlying T = some (.slice E)) (hE : tyOf P E = some (z, k, e, g)) (hz : z.cells.size = k) (he : 1 ≤ e) (hU : P.underlying U = some us) (hus : notInt us = true)
    (S : St X w0 m0 (A ++ (Ro ++ R)) m w) (O : OwnV k Ro v n1 cells) (hx : ev L x = some v) (hy : ev L y = some xv) (hlen : (Builtin.lenOf xv).run P w = .ok n2 w) (hnew : ∀ w', w'.heap = w.heap → (Builtin.firstCells k n2 xv).run P w' = .ok new.toArray w') (hl : new.length = n2 * k)
    (h1 : ∀ u ∈ new, u.oneCell' = true) (hb : (n1 + n2) * e ≤ 140737488355328) (hn : Nat.blt d n = true)
    (h : ∀ Ro' v' w', St X w0 m0 (A ++ (Ro' ++ R)) m w' → OwnV k Ro' v' (n1 + n2) (cells ++ new) → WL P ops Q rest n ((d, v') :: L) w') :
    WL P ops Q ({ dst := some d, op := .call { callee := .builtin .append, args := #[x, y], argTypes := #[T, U] }, type := typ, pos := pos, after := af, guard := none } :: rest) n L w :=
  s_append hT hE hz he hU hus S.swap O hx hy hlen hnew hl h1 hb hn fun Ro' v' w' S' O' => h Ro' v' w' S'.swap O'
theorem s_append1A {A : Boxes} {ps : Array (Nat × Operand)} (cs : List Value) (hT : P.underlying T = some (.slice E)) (hE : tyOf P E = some (z, k, e, g)) (hz : z.cells.size = k) (he : 1 ≤ e)
    (S : St X w0 m0 (A ++ (Ro ++ R)) m w) (O : OwnV k Ro v n1 cells) (hx : ev L x = some v) (hxd : ∀ u, ev ((d, u) :: L) x = some v) (hk : knowsOp L (.buildSlice T n2 ps) = true)
    (hr : ∀ w, (Instr.buildSlice T n2 (ps.map fun (i, x) => (i, evF L x))).run P w = .ok (.slice (some ⟨w.heap.size, 0, none⟩) n2 n2) (w.alloc (.cells cs.toArray E))) (hl : cs.length = n2 * k)
    (h1 : ∀ u ∈ cs, u.oneCell' = true) (hb : (n1 + n2) * e ≤ 140737488355328) (hn : Nat.blt d n = true) (hn2 : Nat.blt d2 n = true)
    (h : ∀ Ro' v' w' u, St X w0 m0 (A ++ (Ro' ++ R)) m w' → OwnV k Ro' v' (n1 + n2) (cells ++ cs) → WL P ops Q rest n ((d2, v') :: (d, u) :: L) w') :
    WL P ops Q ({ dst := some d, op := .buildSlice T n2 ps, type := typ, pos := pos, after := af, guard := none } :: { dst := some d2, op := .call { callee := .builtin .append, args := #[x, .tmp d], argTypes := #[T, T] }, type := typ2, pos := pos2, after := af2, guard := none } :: rest) n L w :=
  s_append1 hT hE hz he S.swap O hx (hxd _) hk hr hl h1 hb hn hn2 fun Ro' v' w' u S' O' => h Ro' v' w' u S'.swap O'
/-- A part of a slice that stays. -/
theorem s_sliceLH {lo hi : Operand} {il ih : Int} (l h : Nat) (F : SlA k e Rel m oa cap xs) (hx : ev L x = some (.slice oa xs.length cap)) (hlo : ev L lo = some (.int .i64 il)) (hhi : ev L hi = some (.int .i64 ih)) (hT : P.underlying T = some (.slice E)) (hE : tyOf P E = some (z, k, by_, g))
    (el : il = (l : Int)) (eh : ih = (h : Int)) (h1 : l ≤ h) (h2 : h ≤ xs.length) (hn : Nat.blt d n = true) (K : ∀ oa' cap', SlA k e Rel m oa' cap' ((xs.take h).drop l) → WL P ops Q rest n ((d, .slice oa' ((xs.take h).drop l).length cap') :: L) w) :
    WL P ops Q ({ dst := some d, op := .slice T x (some lo) (some hi) none, type := typ, pos := pos, after := af, guard := none } :: rest) n L w := by
  have r := r_slice (P := P) (L := L) (w := w) (dd := some d) (typ := typ) (pos := pos) (af := af) (gd := none) hx hlo hhi el eh h1 (Nat.le_trans h2 F.le) hT hE
  have F' := (F.take h).drop l (by simp; omega)
  have e : h - l = ((xs.take h).drop l).length := by simp; omega
  rw [e] at r
  exact s_v r rfl rfl hn (K _ _ F')
theorem s_sliceL {lo : Operand} {il : Int} (l : Nat) (F : SlA k e Rel m oa cap xs) (hx : ev L x = some (.slice oa xs.length cap)) (hlo : ev L lo = some (.int .i64 il)) (hT : P.underlying T = some (.slice E)) (hE : tyOf P E = some (z, k, by_, g))
    (el : il = (l : Int)) (h1 : l ≤ xs.length) (hn : Nat.blt d n = true) (K : ∀ oa' cap', SlA k e Rel m oa' cap' (xs.drop l) → WL P ops Q rest n ((d, .slice oa' (xs.drop l).length cap') :: L) w) :
    WL P ops Q ({ dst := some d, op := .slice T x (some lo) none none, type := typ, pos := pos, after := af, guard := none } :: rest) n L w := by
  have r := r_sliceL (P := P) (L := L) (w := w) (dd := some d) (typ := typ) (pos := pos) (af := af) (gd := none) hx hlo el h1 hT hE
  have F' := F.drop l h1
  rw [show xs.length - l = (xs.drop l).length by simp] at r
  exact s_v r rfl rfl hn (K _ _ F')
theorem s_sliceH {hi : Operand} {ih : Int} (h : Nat) (F : SlA k e Rel m oa cap xs) (hx : ev L x = some (.slice oa xs.length cap)) (hhi : ev L hi = some (.int .i64 ih)) (hT : P.underlying T = some (.slice E)) (hE : tyOf P E = some (z, k, by_, g))
    (eh : ih = (h : Int)) (h2 : h ≤ xs.length) (hn : Nat.blt d n = true) (K : SlA k e Rel m oa cap (xs.take h) → WL P ops Q rest n ((d, .slice oa (xs.take h).length cap) :: L) w) :
    WL P ops Q ({ dst := some d, op := .slice T x none (some hi) none, type := typ, pos := pos, after := af, guard := none } :: rest) n L w := by
  have r := r_sliceH (P := P) (L := L) (w := w) (dd := some d) (typ := typ) (pos := pos) (af := af) (gd := none) hx hhi eh (Nat.le_trans h2 F.le) hT hE
  have e : h = (xs.take h).length := by simp; omega
  have F' := F.take h
  exact s_v (v := .slice oa (xs.take h).length cap) (by rw [← e]; exact r) rfl rfl hn (K F')
/-- Element `i` of a slice that stays, whatever the world. -/
theorem SlA.el (F : SlA k e Rel m oa cap xs) (i : Nat) (hi : i < xs.length) : ∃ b off, oa = some ⟨b, off, Option.none⟩ ∧ ∃ cs : List Value, cs.length = k ∧ Rel m cs xs[i] ∧
    ∀ w, Sub m w → ∀ j v, cs[j]? = some v → w.cell? ⟨b, off + i * k + j, Option.none⟩ = some v := by
  rcases F.row with h | ⟨b, off, arr, T, fz, h1, h2, h3⟩
  · subst h; simp at hi
  · obtain ⟨cs, h4, h5, h6⟩ := h3 i hi
    refine ⟨b, off, h1, cs, h4, h6, fun w hm j v hv => ?_⟩
    have hj : j < k := by
      rcases Nat.lt_or_ge j k with h | h
      · exact h
      · rw [List.getElem?_eq_none (by omega)] at hv; cases hv
    simp only [World.cell?, hm _ _ h2]
    simp [h5 j hj, hv]
/-- The element of one cell that is loaded. -/
theorem r_el1 {b off i : Nat} {v : Value} (hx : ev L x = some (.pointer (some ⟨b, off + i * 1, none⟩))) (hT : tyOf P T = some (z, s, by_, false)) (hm : Sub m w)
    (hc : ∀ w, Sub m w → ∀ j u, [v][j]? = some u → w.cell? ⟨b, off + i * 1 + j, none⟩ = some u) : Runs P L { dst := dd, op := .load T x, type := typ, pos := pos, after := af, guard := gd } w v :=
  r_load hx (ld1 hT (hc w hm 0 v rfl))
/-- The element of `k` cells. -/
theorem r_elk {b off i : Nat} {cs : List Value} (hx : ev L x = some (.pointer (some ⟨b, off + i * k, none⟩))) (hT : tyOf P T = some (z, k, by_, true)) (hm : Sub m w) (hl : cs.length = k)
    (hc : ∀ w, Sub m w → ∀ j u, cs[j]? = some u → w.cell? ⟨b, off + i * k + j, none⟩ = some u) : Runs P L { dst := dd, op := .load T x, type := typ, pos := pos, after := af, guard := gd } w (.agg cs.toArray) :=
  r_load hx (ldk hT hl fun j v hv => by rw [add_none]; exact hc w hm j v hv)
/-- A cell of the element. -/
theorem r_elc {b off i o : Nat} {cs : List Value} {v : Value} (hx : ev L x = some (.pointer (some ⟨b, off + i * k + o, none⟩))) (hT : tyOf P T = some (z, s, by_, false)) (hm : Sub m w)
    (hc : ∀ w, Sub m w → ∀ j u, cs[j]? = some u → w.cell? ⟨b, off + i * k + j, none⟩ = some u) (hv : cs[o]? = some v) : Runs P L { dst := dd, op := .load T x, type := typ, pos := pos, after := af, guard := gd } w v :=
  r_load hx (ld1 hT (hc w hm o v hv))
/-- A slice of the activation's own comes to stay. -/
theorem OwnV.stay [Upr Rel] {Ro : Boxes} {v : Value} {n : Nat} {cells : List Value} {xs : List α} (O : OwnV k Ro v n cells) (S : St X w0 m0 (Ro ++ R) m w) (hX : ∀ x ∈ X, ∃ (j : Nat) (p : Nat × Obj), R[j]? = some p ∧ p.1 = x) (hn : n = xs.length) (hb : xs.length * e ≤ 140737488355328) (hr : ∀ i (h : i < xs.length), Rel m ((cells.drop (i * k)).take k) xs[i]) :
    ∃ oa cap m', v = .slice oa xs.length cap ∧ m.Le m' ∧ St X w0 m0 R m' w ∧ SlA k e Rel m' oa cap xs := by
  cases O with
  | nil =>
    have : xs = [] := List.length_eq_zero_iff.1 hn.symm
    subst this
    exact ⟨none, 0, m, rfl, Mem.Le.refl m, S, by simp, by simp, .inl rfl⟩
  | @row b arr E n' cap cells c1 c2 c3 c4 c5 =>
    subst hn
    have hb' := S.boxes 0 _ rfl
    have hge : w0.heap.size ≤ b := hb'.1.resolve_right fun hx => by
      obtain ⟨j, p, hj, hp⟩ := hX b hx
      have := S.nodup 0 (j + 1) _ p rfl (by simpa using hj) hp.symm
      omega
    obtain ⟨S', hle⟩ := S.freeze 0 rfl hge
    refine ⟨_, cap, _, rfl, hle, by simpa using S', c3, c5, .inr ⟨b, 0, arr, E, (0, 0), rfl, by simp [Mem.put], fun i hi => ⟨(cells.drop (i * k)).take k, ?_, fun j hj => ?_, Upr.up hle (hr i hi)⟩⟩⟩
    · have : (i + 1) * k ≤ xs.length * k := Nat.mul_le_mul_right _ hi
      rw [Nat.add_mul] at this
      simp [c1]; omega
    · have h2 : (i + 1) * k ≤ xs.length * k := Nat.mul_le_mul_right _ hi
      rw [Nat.add_mul] at h2
      rw [List.getElem?_take, if_pos hj, List.getElem?_drop, ← c4, List.getElem?_take, if_pos (by omega)]
      simp
theorem j1 {o0 : Oper} (K : WL P ops Q rest n L' w) (h : WL P ops Q rest n L' w → WL P ops Q (o0 :: rest) n L w) : WL P ops Q (o0 :: rest) n L w := h K
theorem jw1 {o0 : Oper} (S : St X w0 m0 R m w) (K : ∀ w', St X w0 m0 R m w' → WL P ops Q rest n L' w') (h : (∀ w', St X w0 m0 R m w' → WL P ops Q rest n L' w') → WL P ops Q (o0 :: rest) n L w) : WL P ops Q (o0 :: rest) n L w := h K
theorem jm1 {o0 : Oper} (S : St X w0 m0 R m w) (K : ∀ w' m', m.Le m' → St X w0 m0 R m' w' → WL P ops Q rest n L' w') (h : (∀ w' m', m.Le m' → St X w0 m0 R m' w' → WL P ops Q rest n L' w') → WL P ops Q (o0 :: rest) n L w) : WL P ops Q (o0 :: rest) n L w := h K
theorem jq1 {C : World → Prop} {F : Act → Prop} {o0 : Oper} (K : WQ P ops C F rest n L') (h : WQ P ops C F rest n L' → WQ P ops C F (o0 :: rest) n L) : WQ P ops C F (o0 :: rest) n L := h K
theorem j2 {o0 o1 : Oper} (K : WL P ops Q rest n L' w) (h : WL P ops Q rest n L' w → WL P ops Q (o0 :: o1 :: rest) n L w) : WL P ops Q (o0 :: o1 :: rest) n L w := h K
theorem jw2 {o0 o1 : Oper} (S : St X w0 m0 R m w) (K : ∀ w', St X w0 m0 R m w' → WL P ops Q rest n L' w') (h : (∀ w', St X w0 m0 R m w' → WL P ops Q rest n L' w') → WL P ops Q (o0 :: o1 :: rest) n L w) : WL P ops Q (o0 :: o1 :: rest) n L w := h K
theorem jm2 {o0 o1 : Oper} (S : St X w0 m0 R m w) (K : ∀ w' m', m.Le m' → St X w0 m0 R m' w' → WL P ops Q rest n L' w') (h : (∀ w' m', m.Le m' → St X w0 m0 R m' w' → WL P ops Q rest n L' w') → WL P ops Q (o0 :: o1 :: rest) n L w) : WL P ops Q (o0 :: o1 :: rest) n L w := h K
theorem jq2 {C : World → Prop} {F : Act → Prop} {o0 o1 : Oper} (K : WQ P ops C F rest n L') (h : WQ P ops C F rest n L' → WQ P ops C F (o0 :: o1 :: rest) n L) : WQ P ops C F (o0 :: o1 :: rest) n L := h K
theorem j3 {o0 o1 o2 : Oper} (K : WL P ops Q rest n L' w) (h : WL P ops Q rest n L' w → WL P ops Q (o0 :: o1 :: o2 :: rest) n L w) : WL P ops Q (o0 :: o1 :: o2 :: rest) n L w := h K
theorem jw3 {o0 o1 o2 : Oper} (S : St X w0 m0 R m w) (K : ∀ w', St X w0 m0 R m w' → WL P ops Q rest n L' w') (h : (∀ w', St X w0 m0 R m w' → WL P ops Q rest n L' w') → WL P ops Q (o0 :: o1 :: o2 :: rest) n L w) : WL P ops Q (o0 :: o1 :: o2 :: rest) n L w := h K
theorem jm3 {o0 o1 o2 : Oper} (S : St X w0 m0 R m w) (K : ∀ w' m', m.Le m' → St X w0 m0 R m' w' → WL P ops Q rest n L' w') (h : (∀ w' m', m.Le m' → St X w0 m0 R m' w' → WL P ops Q rest n L' w') → WL P ops Q (o0 :: o1 :: o2 :: rest) n L w) : WL P ops Q (o0 :: o1 :: o2 :: rest) n L w := h K
theorem jq3 {C : World → Prop} {F : Act → Prop} {o0 o1 o2 : Oper} (K : WQ P ops C F rest n L') (h : WQ P ops C F rest n L' → WQ P ops C F (o0 :: o1 :: o2 :: rest) n L) : WQ P ops C F (o0 :: o1 :: o2 :: rest) n L := h K
theorem j4 {o0 o1 o2 o3 : Oper} (K : WL P ops Q rest n L' w) (h : WL P ops Q rest n L' w → WL P ops Q (o0 :: o1 :: o2 :: o3 :: rest) n L w) : WL P ops Q (o0 :: o1 :: o2 :: o3 :: rest) n L w := h K
theorem jw4 {o0 o1 o2 o3 : Oper} (S : St X w0 m0 R m w) (K : ∀ w', St X w0 m0 R m w' → WL P ops Q rest n L' w') (h : (∀ w', St X w0 m0 R m w' → WL P ops Q rest n L' w') → WL P ops Q (o0 :: o1 :: o2 :: o3 :: rest) n L w) : WL P ops Q (o0 :: o1 :: o2 :: o3 :: rest) n L w := h K
theorem jm4 {o0 o1 o2 o3 : Oper} (S : St X w0 m0 R m w) (K : ∀ w' m', m.Le m' → St X w0 m0 R m' w' → WL P ops Q rest n L' w') (h : (∀ w' m', m.Le m' → St X w0 m0 R m' w' → WL P ops Q rest n L' w') → WL P ops Q (o0 :: o1 :: o2 :: o3 :: rest) n L w) : WL P ops Q (o0 :: o1 :: o2 :: o3 :: rest) n L w := h K
theorem jq4 {C : World → Prop} {F : Act → Prop} {o0 o1 o2 o3 : Oper} (K : WQ P ops C F rest n L') (h : WQ P ops C F rest n L' → WQ P ops C F (o0 :: o1 :: o2 :: o3 :: rest) n L) : WQ P ops C F (o0 :: o1 :: o2 :: o3 :: rest) n L := h K
theorem j5 {o0 o1 o2 o3 o4 : Oper} (K : WL P ops Q rest n L' w) (h : WL P ops Q rest n L' w → WL P ops Q (o0 :: o1 :: o2 :: o3 :: o4 :: rest) n L w) : WL P ops Q (o0 :: o1 :: o2 :: o3 :: o4 :: rest) n L w := h K
theorem jw5 {o0 o1 o2 o3 o4 : Oper} (S : St X w0 m0 R m w) (K : ∀ w', St X w0 m0 R m w' → WL P ops Q rest n L' w') (h : (∀ w', St X w0 m0 R m w' → WL P ops Q rest n L' w') → WL P ops Q (o0 :: o1 :: o2 :: o3 :: o4 :: rest) n L w) : WL P ops Q (o0 :: o1 :: o2 :: o3 :: o4 :: rest) n L w := h K
theorem jm5 {o0 o1 o2 o3 o4 : Oper} (S : St X w0 m0 R m w) (K : ∀ w' m', m.Le m' → St X w0 m0 R m' w' → WL P ops Q rest n L' w') (h : (∀ w' m', m.Le m' → St X w0 m0 R m' w' → WL P ops Q rest n L' w') → WL P ops Q (o0 :: o1 :: o2 :: o3 :: o4 :: rest) n L w) : WL P ops Q (o0 :: o1 :: o2 :: o3 :: o4 :: rest) n L w := h K
theorem jq5 {C : World → Prop} {F : Act → Prop} {o0 o1 o2 o3 o4 : Oper} (K : WQ P ops C F rest n L') (h : WQ P ops C F rest n L' → WQ P ops C F (o0 :: o1 :: o2 :: o3 :: o4 :: rest) n L) : WQ P ops C F (o0 :: o1 :: o2 :: o3 :: o4 :: rest) n L := h K
theorem j6 {o0 o1 o2 o3 o4 o5 : Oper} (K : WL P ops Q rest n L' w) (h : WL P ops Q rest n L' w → WL P ops Q (o0 :: o1 :: o2 :: o3 :: o4 :: o5 :: rest) n L w) : WL P ops Q (o0 :: o1 :: o2 :: o3 :: o4 :: o5 :: rest) n L w := h K
theorem jw6 {o0 o1 o2 o3 o4 o5 : Oper} (S : St X w0 m0 R m w) (K : ∀ w', St X w0 m0 R m w' → WL P ops Q rest n L' w') (h : (∀ w', St X w0 m0 R m w' → WL P ops Q rest n L' w') → WL P ops Q (o0 :: o1 :: o2 :: o3 :: o4 :: o5 :: rest) n L w) : WL P ops Q (o0 :: o1 :: o2 :: o3 :: o4 :: o5 :: rest) n L w := h K
theorem jm6 {o0 o1 o2 o3 o4 o5 : Oper} (S : St X w0 m0 R m w) (K : ∀ w' m', m.Le m' → St X w0 m0 R m' w' → WL P ops Q rest n L' w') (h : (∀ w' m', m.Le m' → St X w0 m0 R m' w' → WL P ops Q rest n L' w') → WL P ops Q (o0 :: o1 :: o2 :: o3 :: o4 :: o5 :: rest) n L w) : WL P ops Q (o0 :: o1 :: o2 :: o3 :: o4 :: o5 :: rest) n L w := h K
theorem jq6 {C : World → Prop} {F : Act → Prop} {o0 o1 o2 o3 o4 o5 : Oper} (K : WQ P ops C F rest n L') (h : WQ P ops C F rest n L' → WQ P ops C F (o0 :: o1 :: o2 :: o3 :: o4 :: o5 :: rest) n L) : WQ P ops C F (o0 :: o1 :: o2 :: o3 :: o4 :: o5 :: rest) n L := h K
theorem j7 {o0 o1 o2 o3 o4 o5 o6 : Oper} (K : WL P ops Q rest n L' w) (h : WL P ops Q rest n L' w → WL P ops Q (o0 :: o1 :: o2 :: o3 :: o4 :: o5 :: o6 :: rest) n L w) : WL P ops Q (o0 :: o1 :: o2 :: o3 :: o4 :: o5 :: o6 :: rest) n L w := h K
theorem jw7 {o0 o1 o2 o3 o4 o5 o6 : Oper} (S : St X w0 m0 R m w) (K : ∀ w', St X w0 m0 R m w' → WL P ops Q rest n L' w') (h : (∀ w', St X w0 m0 R m w' → WL P ops Q rest n L' w') → WL P ops Q (o0 :: o1 :: o2 :: o3 :: o4 :: o5 :: o6 :: rest) n L w) : WL P ops Q (o0 :: o1 :: o2 :: o3 :: o4 :: o5 :: o6 :: rest) n L w := h K
theorem jm7 {o0 o1 o2 o3 o4 o5 o6 : Oper} (S : St X w0 m0 R m w) (K : ∀ w' m', m.Le m' → St X w0 m0 R m' w' → WL P ops Q rest n L' w') (h : (∀ w' m', m.Le m' → St X w0 m0 R m' w' → WL P ops Q rest n L' w') → WL P ops Q (o0 :: o1 :: o2 :: o3 :: o4 :: o5 :: o6 :: rest) n L w) : WL P ops Q (o0 :: o1 :: o2 :: o3 :: o4 :: o5 :: o6 :: rest) n L w := h K
theorem jq7 {C : World → Prop} {F : Act → Prop} {o0 o1 o2 o3 o4 o5 o6 : Oper} (K : WQ P ops C F rest n L') (h : WQ P ops C F rest n L' → WQ P ops C F (o0 :: o1 :: o2 :: o3 :: o4 :: o5 :: o6 :: rest) n L) : WQ P ops C F (o0 :: o1 :: o2 :: o3 :: o4 :: o5 :: o6 :: rest) n L := h K
theorem j8 {o0 o1 o2 o3 o4 o5 o6 o7 : Oper} (K : WL P ops Q rest n L' w) (h : WL P ops Q rest n L' w → WL P ops Q (o0 :: o1 :: o2 :: o3 :: o4 :: o5 :: o6 :: o7 :: rest) n L w) : WL P ops Q (o0 :: o1 :: o2 :: o3 :: o4 :: o5 :: o6 :: o7 :: rest) n L w := h K
theorem jw8 {o0 o1 o2 o3 o4 o5 o6 o7 : Oper} (S : St X w0 m0 R m w) (K : ∀ w', St X w0 m0 R m w' → WL P ops Q rest n L' w') (h : (∀ w', St X w0 m0 R m w' → WL P ops Q rest n L' w') → WL P ops Q (o0 :: o1 :: o2 :: o3 :: o4 :: o5 :: o6 :: o7 :: rest) n L w) : WL P ops Q (o0 :: o1 :: o2 :: o3 :: o4 :: o5 :: o6 :: o7 :: rest) n L w := h K
theorem jm8 {o0 o1 o2 o3 o4 o5 o6 o7 : Oper} (S : St X w0 m0 R m w) (K : ∀ w' m', m.Le m' → St X w0 m0 R m' w' → WL P ops Q rest n L' w') (h : (∀ w' m', m.Le m' → St X w0 m0 R m' w' → WL P ops Q rest n L' w') → WL P ops Q (o0 :: o1 :: o2 :: o3 :: o4 :: o5 :: o6 :: o7 :: rest) n L w) : WL P ops Q (o0 :: o1 :: o2 :: o3 :: o4 :: o5 :: o6 :: o7 :: rest) n L w := h K
theorem jq8 {C : World → Prop} {F : Act → Prop} {o0 o1 o2 o3 o4 o5 o6 o7 : Oper} (K : WQ P ops C F rest n L') (h : WQ P ops C F rest n L' → WQ P ops C F (o0 :: o1 :: o2 :: o3 :: o4 :: o5 :: o6 :: o7 :: rest) n L) : WQ P ops C F (o0 :: o1 :: o2 :: o3 :: o4 :: o5 :: o6 :: o7 :: rest) n L := h K
theorem j9 {o0 o1 o2 o3 o4 o5 o6 o7 o8 : Oper} (K : WL P ops Q rest n L' w) (h : WL P ops Q rest n L' w → WL P ops Q (o0 :: o1 :: o2 :: o3 :: o4 :: o5 :: o6 :: o7 :: o8 :: rest) n L w) : WL P ops Q (o0 :: o1 :: o2 :: o3 :: o4 :: o5 :: o6 :: o7 :: o8 :: rest) n L w := h K
theorem jw9 {o0 o1 o2 o3 o4 o5 o6 o7 o8 : Oper} (S : St X w0 m0 R m w) (K : ∀ w', St X w0 m0 R m w' → WL P ops Q rest n L' w') (h : (∀ w', St X w0 m0 R m w' → WL P ops Q rest n L' w') → WL P ops Q (o0 :: o1 :: o2 :: o3 :: o4 :: o5 :: o6 :: o7 :: o8 :: rest) n L w) : WL P ops Q (o0 :: o1 :: o2 :: o3 :: o4 :: o5 :: o6 :: o7 :: o8 :: rest) n L w := h K
theorem jm9 {o0 o1 o2 o3 o4 o5 o6 o7 o8 : Oper} (S : St X w0 m0 R m w) (K : ∀ w' m', m.Le m' → St X w0 m0 R m' w' → WL P ops Q rest n L' w') (h : (∀ w' m', m.Le m' → St X w0 m0 R m' w' → WL P ops Q rest n L' w') → WL P ops Q (o0 :: o1 :: o2 :: o3 :: o4 :: o5 :: o6 :: o7 :: o8 :: rest) n L w) : WL P ops Q (o0 :: o1 :: o2 :: o3 :: o4 :: o5 :: o6 :: o7 :: o8 :: rest) n L w := h K
theorem jq9 {C : World → Prop} {F : Act → Prop} {o0 o1 o2 o3 o4 o5 o6 o7 o8 : Oper} (K : WQ P ops C F rest n L') (h : WQ P ops C F rest n L' → WQ P ops C F (o0 :: o1 :: o2 :: o3 :: o4 :: o5 :: o6 :: o7 :: o8 :: rest) n L) : WQ P ops C F (o0 :: o1 :: o2 :: o3 :: o4 :: o5 :: o6 :: o7 :: o8 :: rest) n L := h K
theorem j10 {o0 o1 o2 o3 o4 o5 o6 o7 o8 o9 : Oper} (K : WL P ops Q rest n L' w) (h : WL P ops Q rest n L' w → WL P ops Q (o0 :: o1 :: o2 :: o3 :: o4 :: o5 :: o6 :: o7 :: o8 :: o9 :: rest) n L w) : WL P ops Q (o0 :: o1 :: o2 :: o3 :: o4 :: o5 :: o6 :: o7 :: o8 :: o9 :: rest) n L w := h K
theorem jw10 {o0 o1 o2 o3 o4 o5 o6 o7 o8 o9 : Oper} (S : St X w0 m0 R m w) (K : ∀ w', St X w0 m0 R m w' → WL P ops Q rest n L' w') (h : (∀ w', St X w0 m0 R m w' → WL P ops Q rest n L' w') → WL P ops Q (o0 :: o1 :: o2 :: o3 :: o4 :: o5 :: o6 :: o7 :: o8 :: o9 :: rest) n L w) : WL P ops Q (o0 :: o1 :: o2 :: o3 :: o4 :: o5 :: o6 :: o7 :: o8 :: o9 :: rest) n L w := h K
theorem jm10 {o0 o1 o2 o3 o4 o5 o6 o7 o8 o9 : Oper} (S : St X w0 m0 R m w) (K : ∀ w' m', m.Le m' → St X w0 m0 R m' w' → WL P ops Q rest n L' w') (h : (∀ w' m', m.Le m' → St X w0 m0 R m' w' → WL P ops Q rest n L' w') → WL P ops Q (o0 :: o1 :: o2 :: o3 :: o4 :: o5 :: o6 :: o7 :: o8 :: o9 :: rest) n L w) : WL P ops Q (o0 :: o1 :: o2 :: o3 :: o4 :: o5 :: o6 :: o7 :: o8 :: o9 :: rest) n L w := h K
theorem jq10 {C : World → Prop} {F : Act → Prop} {o0 o1 o2 o3 o4 o5 o6 o7 o8 o9 : Oper} (K : WQ P ops C F rest n L') (h : WQ P ops C F rest n L' → WQ P ops C F (o0 :: o1 :: o2 :: o3 :: o4 :: o5 :: o6 :: o7 :: o8 :: o9 :: rest) n L) : WQ P ops C F (o0 :: o1 :: o2 :: o3 :: o4 :: o5 :: o6 :: o7 :: o8 :: o9 :: rest) n L := h K
theorem j11 {o0 o1 o2 o3 o4 o5 o6 o7 o8 o9 o10 : Oper} (K : WL P ops Q rest n L' w) (h : WL P ops Q rest n L' w → WL P ops Q (o0 :: o1 :: o2 :: o3 :: o4 :: o5 :: o6 :: o7 :: o8 :: o9 :: o10 :: rest) n L w) : WL P ops Q (o0 :: o1 :: o2 :: o3 :: o4 :: o5 :: o6 :: o7 :: o8 :: o9 :: o10 :: rest) n L w := h K
theorem jw11 {o0 o1 o2 o3 o4 o5 o6 o7 o8 o9 o10 : Oper} (S : St X w0 m0 R m w) (K : ∀ w', St X w0 m0 R m w' → WL P ops Q rest n L' w') (h : (∀ w', St X w0 m0 R m w' → WL P ops Q rest n L' w') → WL P ops Q (o0 :: o1 :: o2 :: o3 :: o4 :: o5 :: o6 :: o7 :: o8 :: o9 :: o10 :: rest) n L w) : WL P ops Q (o0 :: o1 :: o2 :: o3 :: o4 :: o5 :: o6 :: o7 :: o8 :: o9 :: o10 :: rest) n L w := h K
theorem jm11 {o0 o1 o2 o3 o4 o5 o6 o7 o8 o9 o10 : Oper} (S : St X w0 m0 R m w) (K : ∀ w' m', m.Le m' → St X w0 m0 R m' w' → WL P ops Q rest n L' w') (h : (∀ w' m', m.Le m' → St X w0 m0 R m' w' → WL P ops Q rest n L' w') → WL P ops Q (o0 :: o1 :: o2 :: o3 :: o4 :: o5 :: o6 :: o7 :: o8 :: o9 :: o10 :: rest) n L w) : WL P ops Q (o0 :: o1 :: o2 :: o3 :: o4 :: o5 :: o6 :: o7 :: o8 :: o9 :: o10 :: rest) n L w := h K
theorem jq11 {C : World → Prop} {F : Act → Prop} {o0 o1 o2 o3 o4 o5 o6 o7 o8 o9 o10 : Oper} (K : WQ P ops C F rest n L') (h : WQ P ops C F rest n L' → WQ P ops C F (o0 :: o1 :: o2 :: o3 :: o4 :: o5 :: o6 :: o7 :: o8 :: o9 :: o10 :: rest) n L) : WQ P ops C F (o0 :: o1 :: o2 :: o3 :: o4 :: o5 :: o6 :: o7 :: o8 :: o9 :: o10 :: rest) n L := h K
theorem j12 {o0 o1 o2 o3 o4 o5 o6 o7 o8 o9 o10 o11 : Oper} (K : WL P ops Q rest n L' w) (h : WL P ops Q rest n L' w → WL P ops Q (o0 :: o1 :: o2 :: o3 :: o4 :: o5 :: o6 :: o7 :: o8 :: o9 :: o10 :: o11 :: rest) n L w) : WL P ops Q (o0 :: o1 :: o2 :: o3 :: o4 :: o5 :: o6 :: o7 :: o8 :: o9 :: o10 :: o11 :: rest) n L w := h K
theorem jw12 {o0 o1 o2 o3 o4 o5 o6 o7 o8 o9 o10 o11 : Oper} (S : St X w0 m0 R m w) (K : ∀ w', St X w0 m0 R m w' → WL P ops Q rest n L' w') (h : (∀ w', St X w0 m0 R m w' → WL P ops Q rest n L' w') → WL P ops Q (o0 :: o1 :: o2 :: o3 :: o4 :: o5 :: o6 :: o7 :: o8 :: o9 :: o10 :: o11 :: rest) n L w) : WL P ops Q (o0 :: o1 :: o2 :: o3 :: o4 :: o5 :: o6 :: o7 :: o8 :: o9 :: o10 :: o11 :: rest) n L w := h K
theorem jm12 {o0 o1 o2 o3 o4 o5 o6 o7 o8 o9 o10 o11 : Oper} (S : St X w0 m0 R m w) (K : ∀ w' m', m.Le m' → St X w0 m0 R m' w' → WL P ops Q rest n L' w') (h : (∀ w' m', m.Le m' → St X w0 m0 R m' w' → WL P ops Q rest n L' w') → WL P ops Q (o0 :: o1 :: o2 :: o3 :: o4 :: o5 :: o6 :: o7 :: o8 :: o9 :: o10 :: o11 :: rest) n L w) : WL P ops Q (o0 :: o1 :: o2 :: o3 :: o4 :: o5 :: o6 :: o7 :: o8 :: o9 :: o10 :: o11 :: rest) n L w := h K
theorem jq12 {C : World → Prop} {F : Act → Prop} {o0 o1 o2 o3 o4 o5 o6 o7 o8 o9 o10 o11 : Oper} (K : WQ P ops C F rest n L') (h : WQ P ops C F rest n L' → WQ P ops C F (o0 :: o1 :: o2 :: o3 :: o4 :: o5 :: o6 :: o7 :: o8 :: o9 :: o10 :: o11 :: rest) n L) : WQ P ops C F (o0 :: o1 :: o2 :: o3 :: o4 :: o5 :: o6 :: o7 :: o8 :: o9 :: o10 :: o11 :: rest) n L := h K
theorem j13 {o0 o1 o2 o3 o4 o5 o6 o7 o8 o9 o10 o11 o12 : Oper} (K : WL P ops Q rest n L' w) (h : WL P ops Q rest n L' w → WL P ops Q (o0 :: o1 :: o2 :: o3 :: o4 :: o5 :: o6 :: o7 :: o8 :: o9 :: o10 :: o11 :: o12 :: rest) n L w) : WL P ops Q (o0 :: o1 :: o2 :: o3 :: o4 :: o5 :: o6 :: o7 :: o8 :: o9 :: o10 :: o11 :: o12 :: rest) n L w := h K
theorem jw13 {o0 o1 o2 o3 o4 o5 o6 o7 o8 o9 o10 o11 o12 : Oper} (S : St X w0 m0 R m w) (K : ∀ w', St X w0 m0 R m w' → WL P ops Q rest n L' w') (h : (∀ w', St X w0 m0 R m w' → WL P ops Q rest n L' w') → WL P ops Q (o0 :: o1 :: o2 :: o3 :: o4 :: o5 :: o6 :: o7 :: o8 :: o9 :: o10 :: o11 :: o12 :: rest) n L w) : WL P ops Q (o0 :: o1 :: o2 :: o3 :: o4 :: o5 :: o6 :: o7 :: o8 :: o9 :: o10 :: o11 :: o12 :: rest) n L w := h K
theorem jm13 {o0 o1 o2 o3 o4 o5 o6 o7 o8 o9 o10 o11 o12 : Oper} (S : St X w0 m0 R m w) (K : ∀ w' m', m.Le m' → St X w0 m0 R m' w' → WL P ops Q rest n L' w') (h : (∀ w' m', m.Le m' → St X w0 m0 R m' w' → WL P ops Q rest n L' w') → WL P ops Q (o0 :: o1 :: o2 :: o3 :: o4 :: o5 :: o6 :: o7 :: o8 :: o9 :: o10 :: o11 :: o12 :: rest) n L w) : WL P ops Q (o0 :: o1 :: o2 :: o3 :: o4 :: o5 :: o6 :: o7 :: o8 :: o9 :: o10 :: o11 :: o12 :: rest) n L w := h K
theorem jq13 {C : World → Prop} {F : Act → Prop} {o0 o1 o2 o3 o4 o5 o6 o7 o8 o9 o10 o11 o12 : Oper} (K : WQ P ops C F rest n L') (h : WQ P ops C F rest n L' → WQ P ops C F (o0 :: o1 :: o2 :: o3 :: o4 :: o5 :: o6 :: o7 :: o8 :: o9 :: o10 :: o11 :: o12 :: rest) n L) : WQ P ops C F (o0 :: o1 :: o2 :: o3 :: o4 :: o5 :: o6 :: o7 :: o8 :: o9 :: o10 :: o11 :: o12 :: rest) n L := h K
theorem j14 {o0 o1 o2 o3 o4 o5 o6 o7 o8 o9 o10 o11 o12 o13 : Oper} (K : WL P ops Q rest n L' w) (h : WL P ops Q rest n L' w → WL P ops Q (o0 :: o1 :: o2 :: o3 :: o4 :: o5 :: o6 :: o7 :: o8 :: o9 :: o10 :: o11 :: o12 :: o13 :: rest) n L w) : WL P ops Q (o0 :: o1 :: o2 :: o3 :: o4 :: o5 :: o6 :: o7 :: o8 :: o9 :: o10 :: o11 :: o12 :: o13 :: rest) n L w := h K
theorem jw14 {o0 o1 o2 o3 o4 o5 o6 o7 o8 o9 o10 o11 o12 o13 : Oper} (S : St X w0 m0 R m w) (K : ∀ w', St X w0 m0 R m w' → WL P ops Q rest n L' w') (h : (∀ w', St X w0 m0 R m w' → WL P ops Q rest n L' w') → WL P ops Q (o0 :: o1 :: o2 :: o3 :: o4 :: o5 :: o6 :: o7 :: o8 :: o9 :: o10 :: o11 :: o12 :: o13 :: rest) n L w) : WL P ops Q (o0 :: o1 :: o2 :: o3 :: o4 :: o5 :: o6 :: o7 :: o8 :: o9 :: o10 :: o11 :: o12 :: o13 :: rest) n L w := h K
theorem jm14 {o0 o1 o2 o3 o4 o5 o6 o7 o8 o9 o10 o11 o12 o13 : Oper} (S : St X w0 m0 R m w) (K : ∀ w' m', m.Le m' → St X w0 m0 R m' w' → WL P ops Q rest n L' w') (h : (∀ w' m', m.Le m' → St X w0 m0 R m' w' → WL P ops Q rest n L' w') → WL P ops Q (o0 :: o1 :: o2 :: o3 :: o4 :: o5 :: o6 :: o7 :: o8 :: o9 :: o10 :: o11 :: o12 :: o13 :: rest) n L w) : WL P ops Q (o0 :: o1 :: o2 :: o3 :: o4 :: o5 :: o6 :: o7 :: o8 :: o9 :: o10 :: o11 :: o12 :: o13 :: rest) n L w := h K
theorem jq14 {C : World → Prop} {F : Act → Prop} {o0 o1 o2 o3 o4 o5 o6 o7 o8 o9 o10 o11 o12 o13 : Oper} (K : WQ P ops C F rest n L') (h : WQ P ops C F rest n L' → WQ P ops C F (o0 :: o1 :: o2 :: o3 :: o4 :: o5 :: o6 :: o7 :: o8 :: o9 :: o10 :: o11 :: o12 :: o13 :: rest) n L) : WQ P ops C F (o0 :: o1 :: o2 :: o3 :: o4 :: o5 :: o6 :: o7 :: o8 :: o9 :: o10 :: o11 :: o12 :: o13 :: rest) n L := h K
theorem q_only {C : World → Prop} {F : Act → Prop} (ts : List Nat) (h : pickSlots L ts = L') (K : WQ P ops C F rest n L') : WQ P ops C F rest n L := fun a H => K a (H.only ts h)
theorem q_bool {C : World → Prop} {F : Act → Prop} {t : Nat} {c : Bool} (ht : lk L t = some (.bool c)) (h1 : c = true → WQ P ops C F rest n ((t, .bool true) :: L)) (h2 : c = false → WQ P ops C F rest n ((t, .bool false) :: L)) : WQ P ops C F rest n L := fun a H =>
  w_bool (F := fun a _ => wpQuiet P ops C F rest a) (w := default) ht (fun e a H => h1 e a H) (fun e a H => h2 e a H) a H
theorem q_eq {C : World → Prop} {F : Act → Prop} {t : Nat} {u v : Value} (ht : lk L t = some u) (e : u = v) (h : WQ P ops C F rest n ((t, v) :: L)) : WQ P ops C F rest n L := fun a H =>
  w_eq (F := fun a _ => wpQuiet P ops C F rest a) (w := default) ht e (fun a H => h a H) a H
/-- A test whose ways meet again. -/
theorem jc {c : Operand} {x' y' : Code} {next : Act → World → Prop} (K : WN next n L' w) (h : WN next n L' w → WC P (.cond c x' y') (Exit.then next Q) n L w) : WC P (.cond c x' y') (Exit.then next Q) n L w := h K
theorem jcw {c : Operand} {x' y' : Code} {next : Act → World → Prop} {J : Slots → Mem → World → Prop} (K : ∀ L' m' w', J L' m' w' → WN next n L' w') (h : (∀ L' m' w', J L' m' w' → WN next n L' w') → WC P (.cond c x' y') (Exit.then next Q) n L w) : WC P (.cond c x' y') (Exit.then next Q) n L w := h K
end
end Gw
namespace Gw
open Go Go.RowKit

section
variable {α : Type} {k e : Nat} {Rel : Mem → List Value → α → Prop}
/-- Cells, `k` an element. -/
def Chunks (k : Nat) (Rel : Mem → List Value → α → Prop) (m : Mem) : List Value → List α → Prop
  | cs, [] => cs = []
  | cs, x :: r => (cs.take k).length = k ∧ Rel m (cs.take k) x ∧ Chunks k Rel m (cs.drop k) r
theorem Chunks.up [Upr Rel] {m m' : Mem} (h : m.Le m') : ∀ {xs : List α} {cs : List Value}, Chunks k Rel m cs xs → Chunks k Rel m' cs xs
  | [], _, c => c
  | _ :: _, _, ⟨h1, h2, h3⟩ => ⟨h1, Upr.up h h2, Chunks.up h h3⟩
theorem Chunks.len {m : Mem} : ∀ {xs : List α} {cs : List Value}, Chunks k Rel m cs xs → cs.length = xs.length * k
  | [], _, c => by simp [Chunks] at c; simp [c]
  | x :: r, cs, ⟨h1, _, h3⟩ => by
    have := Chunks.len h3
    simp only [List.length_take, List.length_drop, List.length_cons, Nat.add_mul] at *
    omega
theorem Chunks.get {m : Mem} : ∀ {xs : List α} {cs : List Value}, Chunks k Rel m cs xs → ∀ i (h : i < xs.length), Rel m ((cs.drop (i * k)).take k) xs[i]
  | [], _, _, i, h => by simp at h
  | x :: r, cs, ⟨h1, h2, h3⟩, 0, h => by simpa using h2
  | x :: r, cs, ⟨h1, h2, h3⟩, i + 1, h => by
    have := Chunks.get h3 i (by simpa using h)
    rw [List.drop_drop] at this
    simpa [Nat.add_mul, Nat.add_comm] using this
theorem Chunks.of {m : Mem} : ∀ {xs : List α} {cs : List Value}, cs.length = xs.length * k → (∀ i (h : i < xs.length), Rel m ((cs.drop (i * k)).take k) xs[i]) → Chunks k Rel m cs xs
  | [], cs, hl, _ => by simpa [Chunks] using hl
  | x :: r, cs, hl, h => by
    simp only [List.length_cons, Nat.add_mul] at hl
    refine ⟨by simp; omega, (by
      have h0 := h 0 (by simp)
      rw [Nat.zero_mul, List.drop_zero] at h0
      exact h0), Chunks.of (by simp; omega) fun i hi => ?_⟩
    have := h (i + 1) (by simpa using hi)
    rw [List.drop_drop]
    simpa [Nat.add_mul, Nat.add_comm] using this
theorem Chunks.app {m : Mem} {ys : List α} {ds : List Value} (hd : Chunks k Rel m ds ys) : ∀ {xs : List α} {cs : List Value}, Chunks k Rel m cs xs → Chunks k Rel m (cs ++ ds) (xs ++ ys)
  | [], cs, c => by simp [Chunks] at c; subst c; simpa using hd
  | x :: r, cs, ⟨h1, h2, h3⟩ => by
    have hk : k ≤ cs.length := by simp at h1; omega
    refine ⟨?_, ?_, ?_⟩
    · simp; omega
    · rw [List.take_append_of_le_length hk]; exact h2
    · rw [List.drop_append_of_le_length hk]; exact Chunks.app hd h3
theorem Chunks.one {m : Mem} {c : List Value} {x : α} (hl : c.length = k) (h : Rel m c x) : Chunks k Rel m c [x] :=
  ⟨by simp [hl], by rw [← hl, List.take_length]; exact h, by simp [Chunks, hl]⟩
theorem Chunks.oneCell {m : Mem} (hR : ∀ c x, Rel m c x → ∀ u ∈ c, u.oneCell' = true) : ∀ {xs : List α} {cs : List Value}, Chunks k Rel m cs xs → ∀ u ∈ cs, u.oneCell' = true
  | [], cs, c, u, hu => by simp [Chunks] at c; subst c; cases hu
  | x :: r, cs, ⟨h1, h2, h3⟩, u, hu => by
    rw [← List.take_append_drop k cs] at hu
    rcases List.mem_append.1 hu with h | h
    · exact hR _ _ h2 u h
    · exact Chunks.oneCell hR h3 u h
/-- Cells of an element are no aggregates. -/
class Flat (Rel : Mem → List Value → α → Prop) : Prop where
  flat : ∀ {m c x}, Rel m c x → ∀ u ∈ c, u.oneCell' = true
instance : Flat (Enc eByte) := ⟨fun h u hu => by rw [h] at hu; simp [eByte] at hu; subst hu; rfl⟩
instance : Flat RStr := ⟨fun h u hu => by rw [h.1] at hu; simp [str] at hu; subst hu; rfl⟩
instance : Flat RInt := ⟨fun h u hu => by rw [h.1] at hu; simp at hu; subst hu; rfl⟩
instance : Flat RBys := ⟨fun ⟨oa, cap, h, _⟩ u hu => by rw [h] at hu; simp at hu; subst hu; rfl⟩
/-- A slice of the activation's own that it appends to: its elements are `xs`. -/
def Own (k e : Nat) (Rel : Mem → List Value → α → Prop) (m : Mem) (Ro : Boxes) (v : Value) (xs : List α) : Prop := (∃ cells, OwnV k Ro v xs.length cells ∧ Chunks k Rel m cells xs) ∧ xs.length * e ≤ 140737488355328
theorem Own.nil {m : Mem} : Own k e Rel m [] (.slice none 0 0) ([] : List α) := ⟨⟨[], .nil, rfl⟩, by simp⟩
theorem Own.up [Upr Rel] {m m' : Mem} {Ro : Boxes} {v : Value} {xs : List α} (O : Own k e Rel m Ro v xs) (h : m.Le m') : Own k e Rel m' Ro v xs := let ⟨⟨c, h1, h2⟩, h3⟩ := O; ⟨⟨c, h1, h2.up h⟩, h3⟩
theorem Own.stay [Upr Rel] {m m0 : Mem} {w0 w : World} {Ro R A : Boxes} {v : Value} {xs : List α} {X : List Nat} (O : Own k e Rel m Ro v xs) (S : St X w0 m0 (A ++ (Ro ++ R)) m w) (hX : ∀ x ∈ X, ∃ (j : Nat) (p : Nat × Obj), A[j]? = some p ∧ p.1 = x) :
    ∃ oa cap m', v = .slice oa xs.length cap ∧ m.Le m' ∧ St X w0 m0 (A ++ R) m' w ∧ SlA k e Rel m' oa cap xs := by
  obtain ⟨⟨c, h1, h2⟩, h3⟩ := O
  refine h1.stay S.swap (fun x hx => ?_) rfl h3 h2.get
  obtain ⟨j, p, hj, hp⟩ := hX x hx
  refine ⟨j, p, ?_, hp⟩
  have : j < A.length := by
    rcases Nat.lt_or_ge j A.length with h | h
    · exact h
    · rw [List.getElem?_eq_none h] at hj; cases hj
  rw [List.getElem?_append_left this]; exact hj
theorem Own.slice {m : Mem} {Ro : Boxes} {v : Value} {xs : List α} (O : Own k e Rel m Ro v xs) : ∃ oa cap, v = .slice oa xs.length cap ∧ xs.length ≤ cap ∧ cap ≤ 9223372036854775807 := by
  obtain ⟨⟨c, h1, h2⟩, h3⟩ := O
  generalize hn : xs.length = n at h1
  cases h1 with
  | nil => exact ⟨none, 0, rfl, by omega, by omega⟩
  | row a b c d e => exact ⟨_, _, rfl, by omega, e⟩
end
theorem St.swapA {X : List Nat} {w0 w : World} {m m0 : Mem} {A R1 R2 R : Boxes} (S : St X w0 m0 (A ++ (R1 ++ (R2 ++ R))) m w) : St X w0 m0 (A ++ (R2 ++ (R1 ++ R))) m w := by
  refine S.reindex (fun j => if j < A.length then j else if j < A.length + R2.length then j + R1.length else if j < A.length + R2.length + R1.length then j - R2.length else j) (fun j k hjk => ?_) fun j q hq => ?_
  · have h' : (if j < A.length then j else if j < A.length + R2.length then j + R1.length else if j < A.length + R2.length + R1.length then j - R2.length else j) = (if k < A.length then k else if k < A.length + R2.length then k + R1.length else if k < A.length + R2.length + R1.length then k - R2.length else k) := hjk
    split at h' <;> split at h' <;> (try split at h') <;> (try split at h') <;> (try split at h') <;> (try split at h') <;> omega
  · show (A ++ (R1 ++ (R2 ++ R)))[if j < A.length then j else if j < A.length + R2.length then j + R1.length else if j < A.length + R2.length + R1.length then j - R2.length else j]? = some q
    by_cases h0 : j < A.length
    · rw [if_pos h0, List.getElem?_append_left h0]; rwa [List.getElem?_append_left h0] at hq
    · rw [List.getElem?_append_right (by omega)] at hq
      rw [if_neg h0]
      by_cases h1 : j < A.length + R2.length
      · rw [List.getElem?_append_left (by omega)] at hq
        rw [if_pos h1, List.getElem?_append_right (by omega), List.getElem?_append_right (by omega), List.getElem?_append_left (by omega), ← hq]
        congr 1; omega
      · rw [List.getElem?_append_right (by omega)] at hq
        rw [if_neg h1]
        by_cases h2 : j < A.length + R2.length + R1.length
        · rw [List.getElem?_append_left (by omega)] at hq
          rw [if_pos h2, List.getElem?_append_right (by omega), List.getElem?_append_left (by omega), ← hq]
          congr 1; omega
        · rw [List.getElem?_append_right (by omega)] at hq
          rw [if_neg h2, List.getElem?_append_right (by omega), List.getElem?_append_right (by omega), List.getElem?_append_right (by omega), ← hq]
          congr 1; omega
section
variable {α : Type} {k e : Nat} {Rel : Mem → List Value → α → Prop} [Flat Rel]
variable {P : Program} {ops : Array Oper} {Q : Exit → Act → World → Prop} {rest : List Oper} {n : Nat} {L L' : Slots} {a : Act} {w w0 : World} {X : List Nat} {R Ro A : Boxes} {m m0 : Mem}
variable {d d2 T U E n1 n2 : Nat} {dd : Option Tmp} {x y c : Operand} {typ typ2 : TypeId} {pos pos2 : String} {af af2 : Array Edge} {gd : Option (Nat × Bool)} {z v xv : Value} {s by_ : Nat} {g : Bool}
variable {oa : Option Addr} {cap : Nat} {xs ys : List α} {us : TypeDesc}
/-- `append(x, y)` of one element. -/
theorem s_app1 {ps : Array (Nat × Operand)} (cs : List Value) (y' : α) (hT : P.underlying T = some (.slice E)) (hE : tyOf P E = some (z, k, e, g)) (hz : z.cells.size = k) (he : 1 ≤ e)
    (S : St X w0 m0 (A ++ (Ro ++ R)) m w) (O : Own k e Rel m Ro v xs) (hx : ev L x = some v) (hxd : ∀ u, ev ((d, u) :: L) x = some v) (hk : knowsOp L (.buildSlice T 1 ps) = true)
    (hr : ∀ w, (Instr.buildSlice T 1 (ps.map fun (i, x) => (i, evF L x))).run P w = .ok (.slice (some ⟨w.heap.size, 0, none⟩) 1 1) (w.alloc (.cells cs.toArray E))) (hl : cs.length = k) (hrel : Rel m cs y')
    (hb : (xs.length + 1) * e ≤ 140737488355328) (hn : Nat.blt d n = true) (hn2 : Nat.blt d2 n = true)
    (h : ∀ Ro' v' w' u, St X w0 m0 (A ++ (Ro' ++ R)) m w' → Own k e Rel m Ro' v' (xs ++ [y']) → WL P ops Q rest n ((d2, v') :: (d, u) :: L) w') :
    WL P ops Q ({ dst := some d, op := .buildSlice T 1 ps, type := typ, pos := pos, after := af, guard := none } :: { dst := some d2, op := .call { callee := .builtin .append, args := #[x, .tmp d], argTypes := #[T, T] }, type := typ2, pos := pos2, after := af2, guard := none } :: rest) n L w := by
  obtain ⟨⟨cells, h1, h2⟩, h3⟩ := O
  refine s_append1A cs hT hE hz he S h1 hx hxd hk hr (by omega) (Flat.flat hrel) hb hn hn2 fun Ro' v' w' u S' O' => h Ro' v' w' u S' ⟨⟨_, by simpa using O', ?_⟩, by simpa using hb⟩
  exact Chunks.app (Chunks.one hl hrel) h2
/-- `append(x, y...)`. -/
theorem s_appS (F : SlA k e Rel m oa cap ys) (hT : P.underlying T = some (.slice E)) (hE : tyOf P E = some (z, k, e, g)) (hz : z.cells.size = k) (he : 1 ≤ e) (hU : P.underlying U = some us) (hus : notInt us = true)
    (S : St X w0 m0 (A ++ (Ro ++ R)) m w) (O : Own k e Rel m Ro v xs) (hx : ev L x = some v) (hy : ev L y = some (.slice oa ys.length cap))
    (hb : (xs.length + ys.length) * e ≤ 140737488355328) (hn : Nat.blt d n = true)
    (h : ∀ Ro' v' w', St X w0 m0 (A ++ (Ro' ++ R)) m w' → Own k e Rel m Ro' v' (xs ++ ys) → WL P ops Q rest n ((d, v') :: L) w') :
    WL P ops Q ({ dst := some d, op := .call { callee := .builtin .append, args := #[x, y], argTypes := #[T, U] }, type := typ, pos := pos, after := af, guard := none } :: rest) n L w := by
  obtain ⟨⟨cells, h1, h2⟩, h3⟩ := O
  obtain ⟨new, e1, e2, e3⟩ := F.src (P := P) S.mem
  have C := Chunks.of e1 e3
  refine s_appendA hT hE hz he hU hus S h1 hx hy (by simp [Builtin.lenOf]) e2 e1 (C.oneCell fun c x h => Flat.flat h) hb hn fun Ro' v' w' S' O' => h Ro' v' w' S' ⟨⟨_, by simpa using O', Chunks.app C h2⟩, by simpa using hb⟩
omit [Flat Rel] in
/-- A row written out, that stays. -/
theorem s_build_stay [Upr Rel] {ps : Array (Nat × Operand)} (cs : List Value) (xs : List α) (S : St X w0 m0 R m w) (hk : knowsOp L (.buildSlice T n1 ps) = true)
    (hr : ∀ w, (Instr.buildSlice T n1 (ps.map fun (i, x) => (i, evF L x))).run P w = .ok (.slice (some ⟨w.heap.size, 0, none⟩) n1 n1) (w.alloc (.cells cs.toArray E))) (hc : Chunks k Rel m cs xs) (hn1 : n1 = xs.length) (hb : xs.length * e ≤ 140737488355328) (he : 1 ≤ e) (hn : Nat.blt d n = true)
    (h : ∀ w' m' b, m.Le m' → St X w0 m0 R m' w' → SlA k e Rel m' (some ⟨b, 0, none⟩) xs.length xs → WL P ops Q rest n ((d, .slice (some ⟨b, 0, none⟩) xs.length xs.length) :: L) w') :
    WL P ops Q ({ dst := some d, op := .buildSlice T n1 ps, type := typ, pos := pos, after := af, guard := none } :: rest) n L w := by
  subst hn1
  have hmul : xs.length * 1 ≤ xs.length * e := Nat.mul_le_mul_left _ he
  refine s_buildSlice S hk hr hn fun w' b hge S' => ?_
  obtain ⟨S2, hle⟩ := S'.freeze 0 rfl hge
  refine h w' _ b hle (by simpa using S2) ⟨Nat.le_refl _, by omega, .inr ⟨b, 0, cs.toArray, E, (0, 0), rfl, by simp [Mem.put], fun i hi => ⟨(cs.drop (i * k)).take k, ?_, fun j hj => ?_, Upr.up hle (hc.get i hi)⟩⟩⟩
  · have hl := hc.len
    have : (i + 1) * k ≤ xs.length * k := Nat.mul_le_mul_right _ hi
    rw [Nat.add_mul] at this
    simp; omega
  · rw [List.getElem?_take, if_pos hj, List.getElem?_drop]
    simp
end
section
variable {P : Program} {ops : Array Oper} {Q : Exit → Act → World → Prop} {rest : List Oper} {n : Nat} {L L' : Slots} {a : Act} {w w0 : World} {X : List Nat} {R Ro A : Boxes} {m m0 : Mem}
variable {d d2 T U E n1 n2 : Nat} {dd : Option Tmp} {x y c : Operand} {typ typ2 : TypeId} {pos pos2 : String} {af af2 : Array Edge} {gd : Option (Nat × Bool)} {z v xv : Value} {s by_ : Nat} {g : Bool} {xs ys : List UInt8}
/-- `append(x, s...)`, a string's bytes. -/
theorem s_appStr (hT : P.underlying T = some (.slice E)) (hE : tyOf P E = some (z, 1, 1, g)) (hz : z.cells.size = 1) (hU : P.underlying U = some .string)
    (S : St X w0 m0 (A ++ (Ro ++ R)) m w) (O : Own 1 1 (Enc eByte) m Ro v xs) (hx : ev L x = some v) (hy : ev L y = some (str ys))
    (hb : (xs.length + ys.length) * 1 ≤ 140737488355328) (hn : Nat.blt d n = true)
    (h : ∀ Ro' v' w', St X w0 m0 (A ++ (Ro' ++ R)) m w' → Own 1 1 (Enc eByte) m Ro' v' (xs ++ ys) → WL P ops Q rest n ((d, v') :: L) w') :
    WL P ops Q ({ dst := some d, op := .call { callee := .builtin .append, args := #[x, y], argTypes := #[T, U] }, type := typ, pos := pos, after := af, guard := none } :: rest) n L w := by
  obtain ⟨⟨cells, h1, h2⟩, h3⟩ := O
  have C : Chunks 1 (Enc eByte) m (ys.map fun b => Value.int .u8 b.toNat) ys := Chunks.of (by simp) fun i hi => by
    show _ = eByte _
    apply List.ext_getElem?
    intro j
    simp only [List.getElem?_take, List.getElem?_drop, Nat.mul_one, eByte]
    cases j with
    | zero => simp [hi]
    | succ j => simp
  refine s_appendA hT hE hz (by omega) hU rfl S h1 hx hy (by simp [Builtin.lenOf, str, ByteArray.size]) (fun w' _ => src_str ys w') (by simp) (C.oneCell fun c x h => Flat.flat h) hb hn fun Ro' v' w' S' O' => h Ro' v' w' S' ⟨⟨_, by simpa using O', Chunks.app C h2⟩, by simpa using hb⟩
end
end Gw
namespace Gw
open Go Go.RowKit

section
variable {P : Program} {ops : Array Oper} {Q : Exit → Act → World → Prop} {rest : List Oper} {n : Nat} {L L' : Slots} {a : Act} {w w0 : World} {X : List Nat} {R Ro A : Boxes} {m m0 : Mem}
variable {d d2 T U E n1 n2 : Nat} {dd : Option Tmp} {x y c : Operand} {typ typ2 : TypeId} {pos pos2 : String} {af af2 : Array Edge} {gd : Option (Nat × Bool)} {z v xv : Value} {s by_ : Nat} {g : Bool}
/-! ### A region that draws its order: what only looks, then a row of operations one behind the other -/
def WT (P : Program) (ops : Array Oper) (w : World) (F : Act → Prop) (rest : List Oper) (n : Nat) (L : Slots) : Prop := ∀ a, Has n L a → wpStill P ops w F rest a
theorem t_v {F : Act → Prop} {o : Oper} {v : Value} (h : Runs P L o w v) (hg : o.guard = none) (hd : o.dst = some d) (hn : Nat.blt d n = true) (k : WT P ops w F rest n ((d, v) :: L)) : WT P ops w F (o :: rest) n L := fun a H => by
  unfold wpStill
  rw [if_pos (by simp [Region.wanted, hg])]
  unfold Oper.still
  rw [exec_has H h.knows, h.run, Oper.stillUpon_value, hd]
  exact k _ (H.put hn v)
theorem t_on {F : Act → Prop} {o : Oper} {i t : Nat} {b : Bool} (hg : o.guard = some (i, b)) (hi : (ops[i]?).bind (·.dst) = some t) (ht : lk L t = some (.bool b))
    (k : WT P ops w F ({ o with guard := none } :: rest) n L) : WT P ops w F (o :: rest) n L := fun a H => by
  replace k := k a H
  unfold wpStill at k ⊢
  have hw : Region.wanted o (yielded ops a.tmps) = true := by
    unfold Region.wanted
    rw [hg]
    simp only
    unfold yielded
    rw [hi]
    have h2 := H.get t _ ht
    simp only [Option.bind_some]
    rw [Array.getD_eq_getD_getElem?] at h2
    cases h3 : a.tmps[t]? with
    | none => rw [h3] at h2; simp [undef] at h2
    | some u => rw [h3] at h2; simp at h2; subst h2; simp
  rw [if_pos hw]
  rw [if_pos (show Region.wanted { o with guard := none } (yielded ops a.tmps) = true from rfl)] at k
  exact k
theorem t_off {F : Act → Prop} {o : Oper} {i t : Nat} {b c : Bool} (hg : o.guard = some (i, b)) (hd : o.dst = some d) (hn : Nat.blt d n = true) (hi : (ops[i]?).bind (·.dst) = some t)
    (ht : lk L t = some (.bool c)) (hb : c = !b) (k : WT P ops w F rest n ((d, undef) :: L)) : WT P ops w F (o :: rest) n L := fun a H => by
  unfold wpStill
  have hw : Region.wanted o (yielded ops a.tmps) = false := by
    unfold Region.wanted
    rw [hg]
    simp only
    unfold yielded
    rw [hi]
    have h2 := H.get t _ ht
    simp only [Option.bind_some]
    rw [Array.getD_eq_getD_getElem?] at h2
    subst hb
    cases h3 : a.tmps[t]? with
    | none => simp
    | some u => rw [h3] at h2; simp at h2; subst h2; cases b <;> simp
  rw [if_neg (by rw [hw]; simp), hd]
  exact k _ (H.put hn undef)
/-- The first `k` only look, the others go one behind the other. -/
def WK (P : Program) (ops : Array Oper) (Q : Exit → Act → World → Prop) (w : World) (k : Nat) (rest : List Oper) (n : Nat) (L : Slots) : Prop :=
  WT P ops w (fun a' => wpList P ops Q (rest.drop k) a' w) (rest.take k) n L
theorem k_v {o : Oper} {v : Value} {k : Nat} (h : Runs P L o w v) (hg : o.guard = none) (hd : o.dst = some d) (hn : Nat.blt d n = true) (K : WK P ops Q w k rest n ((d, v) :: L)) : WK P ops Q w (k + 1) (o :: rest) n L := t_v h hg hd hn K
theorem k_on {o : Oper} {i t k : Nat} {b : Bool} (hg : o.guard = some (i, b)) (hi : (ops[i]?).bind (·.dst) = some t) (ht : lk L t = some (.bool b)) (K : WK P ops Q w (k + 1) ({ o with guard := none } :: rest) n L) : WK P ops Q w (k + 1) (o :: rest) n L := t_on hg hi ht K
theorem k_off {o : Oper} {i t k : Nat} {b c : Bool} (hg : o.guard = some (i, b)) (hd : o.dst = some d) (hn : Nat.blt d n = true) (hi : (ops[i]?).bind (·.dst) = some t) (ht : lk L t = some (.bool c)) (hb : c = !b) (K : WK P ops Q w k rest n ((d, undef) :: L)) :
    WK P ops Q w (k + 1) (o :: rest) n L := t_off hg hd hn hi ht hb K
theorem k_end (h : WL P ops Q rest n L w) : WK P ops Q w 0 rest n L := h
theorem c_tail {y' : Code} {id : Nat} {l : List Oper} (N : Nat) (hm : P.follows .mixedOrders = true) (hB : Region.lexTailB .any l.toArray N = true)
    (h : WK P l.toArray (Exit.then (y'.wp P Q) Q) w.drew N l n L) : WC P (Code.seq (Code.region id l.toArray true) y') Q n L w := fun a H =>
  wp_seq (wp_region_still_tail N hm hB (h a H))
theorem c_tail1 {id : Nat} {l : List Oper} (N : Nat) (hm : P.follows .mixedOrders = true) (hB : Region.lexTailB .any l.toArray N = true)
    (h : WK P l.toArray Q w.drew N l n L) : WC P (Code.region id l.toArray true) Q n L w := fun a H =>
  wp_region_still_tail N hm hB (h a H)
theorem c_quiet1 {id : Nat} {l : List Oper} (S : St X w0 m0 R m w) (hm : P.follows .mixedOrders = true) (hB : Region.lexB .any l.toArray = true)
    (h : WQ P l.toArray (fun w' => St X w0 m0 R m w' ∧ Bel [] w w') (fun a => ∀ w', (St X w0 m0 R m w' ∧ Bel [] w w') → Q .normal a w') l n L) : WC P (Code.region id l.toArray true) Q n L w := fun a H =>
  wp_region_quiet (C := fun w' => St X w0 m0 R m w' ∧ Bel [] w w') hm hB ⟨S.step (Bel.drew [] w), Bel.drew [] w⟩ (h a H)
theorem q_done1 (h : ∀ w', St X w0 m0 R m w' → Bel [] w w' → WE Q .normal n L w') : WQ P ops (fun w' => St X w0 m0 R m w' ∧ Bel [] w w') (fun a => ∀ w', (St X w0 m0 R m w' ∧ Bel [] w w') → Q .normal a w') [] n L :=
  fun a H w' hw => h w' hw.1 hw.2 a H

/-! ### Functions that write one variable of their caller's -/
/-- It returns `v`; the block `b` holds `o` then; of these and of what stays `Φ` holds. -/
def RetX (b : Nat) (m : Mem) (w : World) (Φ : Mem → Obj → Value → Prop) : Ending → World → Prop := fun e w' => ∃ v o, e = .returned v ∧ Bel [b] w w' ∧ w'.heap[b]? = some o ∧ Φ (grow m w w') o v
theorem St.growX (S : St X w0 m0 R m w) (i : Nat) {b : Nat} {o o' : Obj} (h : R[i]? = some (b, o)) {w' : World} (hw : Bel [b] w w') (hn : w'.heap[b]? = some o') :
    St X w0 m0 (R.set i (b, o')) (Gw.grow m w w') w' := by
  have S' := S.write i h hw hn
  have hid : ∀ (j : Nat) p, (R.set i (b, o'))[j]? = some p → p.1 < w.heap.size ∧ m p.1 = none := fun j p hp => by
    refine ⟨?_, (S'.boxes j p hp).2.2⟩
    rw [List.getElem?_set] at hp
    by_cases e : i = j
    · subst e
      have hi : i < R.length := by
        rcases Nat.lt_or_ge i R.length with h' | h'
        · exact h'
        · simp [List.getElem?_eq_none h'] at h
      simp [hi] at hp
      rw [← hp]; exact (show b < w.heap.size from S.lt h)
    · rw [if_neg e] at hp; exact S.lt hp
  refine ⟨S'.bel, fun j p hp => ⟨(S'.boxes j p hp).1, (S'.boxes j p hp).2.1, ?_⟩, S'.nodup, fun k o2 e => ?_, fun k o2 e hk => ?_⟩
  · unfold Gw.grow
    rw [if_pos (hid j p hp).1]; exact (hid j p hp).2
  · unfold Gw.grow at e
    split at e
    · exact S'.mem k o2 e
    · exact e
  · unfold Gw.grow at e
    rw [if_pos (Nat.lt_of_lt_of_le hk S.bel.size)] at e
    exact S.low k o2 e hk
theorem s_callX (i : Nat) {b : Nat} {o0 : Obj} {f : FuncId} {args : Array Operand} {ats : Array TypeId} {vs : Array Value} {Φ : Mem → Obj → Value → Prop} (S : St X w0 m0 R m w) (hi : R[i]? = some (b, o0)) (hk : knows L args.toList = true) (hf : callable P f = true)
    (hc : Calls P f vs w (RetX b m w Φ)) (hv : args.toList.map (evF L) = vs.toList) (hn : Nat.blt d n = true) (h : ∀ w' m' o' u, m.Le m' → St X w0 m0 (R.set i (b, o')) m' w' → Φ m' o' u → WL P ops Q rest n ((d, u) :: L) w') :
    WL P ops Q ({ dst := some d, op := .call { callee := .value (.func f), args := args, argTypes := ats }, type := typ, pos := pos, after := af, guard := none } :: rest) n L w :=
  s_call hk (arrmap hv) hf (Rl := fun u w' => ∃ o', Bel [b] w w' ∧ w'.heap[b]? = some o' ∧ Φ (grow m w w') o' u) (hc.mono fun e w' ⟨v, o, he, hb, ho, hΦ⟩ => ⟨v, he, o, hb, ho, hΦ⟩) hn fun u w' ⟨o', hb, ho, hΦ⟩ => h w' _ o' u (S.mem.le_grow w') (S.growX i hi hb ho) hΦ
theorem f_retX {fn : Func} {rs : List ResultVar} {vs : List Value} {b : Nat} {o : Obj} {Φ : Mem → Obj → Value → Prop} (i : Nat) (S : St [b] w0 m0 R m w) (hi : R[i]? = some (b, o)) (hr : fn.results = rs.toArray) (h : Res P L w rs vs) (hv : m.Le (grow m0 w0 w) → Φ (grow m0 w0 w) o (packV vs)) :
    WE (bodyPost P fn (RetX b m0 w0 Φ)) .ret n L w := fun a H => ret_ok H hr h ⟨_, o, rfl, S.bel, (S.boxes i _ hi).2.1, hv S.le⟩
theorem f_endX {fn : Func} {rs : List ResultVar} {vs : List Value} {b : Nat} {o : Obj} {Φ : Mem → Obj → Value → Prop} (i : Nat) (S : St [b] w0 m0 R m w) (hi : R[i]? = some (b, o)) (hr : fn.results = rs.toArray) (h : Res P L w rs vs) (hv : m.Le (grow m0 w0 w) → Φ (grow m0 w0 w) o (packV vs)) :
    WE (bodyPost P fn (RetX b m0 w0 Φ)) .normal n L w := fun a H => ret_ok H hr h ⟨_, o, rfl, S.bel, (S.boxes i _ hi).2.1, hv S.le⟩
/-- `panic` can't be: a test that never holds. -/
theorem never {F : Act → World → Prop} (h : False) : WN F n L w := h.elim
end
section
variable {α : Type} {k e : Nat} {Rel : Mem → List Value → α → Prop}
variable {P : Program} {ops : Array Oper} {Q : Exit → Act → World → Prop} {rest : List Oper} {n : Nat} {L L' : Slots} {a : Act} {w w0 : World} {X : List Nat} {R Ro A : Boxes} {m m0 : Mem}
variable {d d2 T U E n1 n2 : Nat} {dd : Option Tmp} {x y c : Operand} {typ typ2 : TypeId} {pos pos2 : String} {af af2 : Array Edge} {gd : Option (Nat × Bool)} {z v xv : Value} {s by_ : Nat} {g : Bool}
variable {oa : Option Addr} {cap : Nat} {xs ys : List α} {us : TypeDesc}
/-! ### A result that is a slice of the caller's own -/
def NewBox (Ro : Boxes) (w w' : World) : Prop := Ro = [] ∨ ∃ b o, Ro = [(b, o)] ∧ w.heap.size ≤ b ∧ w'.heap[b]? = some o
def RetO (k e : Nat) (Rel : Mem → List Value → α → Prop) (m : Mem) (w : World) (xs : List α) : Ending → World → Prop := fun en w' => ∃ v Ro, en = .returned v ∧ Bel [] w w' ∧ Own k e Rel m Ro v xs ∧ NewBox Ro w w'
theorem St.newBox (S : St X w0 m0 R m w) {w' : World} (hb : Bel [] w w') {Ro : Boxes} (h : NewBox Ro w w') : St X w0 m0 (Ro ++ R) m w' := by
  rcases h with rfl | ⟨b, o, rfl, h1, h2⟩
  · exact S.step hb
  · have S' := S.step hb
    refine ⟨S'.bel, fun j p hp => ?_, fun j k p q hp hq e => ?_, S'.mem, S.low⟩
    · cases j with
      | zero =>
        simp at hp; subst hp
        refine ⟨.inl (Nat.le_trans S.bel.size h1), h2, ?_⟩
        cases hm : m b with
        | none => rfl
        | some o' => have := S.mem.lt hm; omega
      | succ j => exact S'.boxes j p (by simpa using hp)
    · cases j with
      | zero =>
        cases k with
        | zero => rfl
        | succ k =>
          simp at hp hq; subst hp
          have := S.lt hq
          simp only at e; omega
      | succ j =>
        cases k with
        | zero =>
          simp at hp hq; subst hq
          have := S.lt hp
          simp only at e; omega
        | succ k => exact congrArg (· + 1) (S.nodup j k p q (by simpa using hp) (by simpa using hq) e)
theorem s_callO {f : FuncId} {args : Array Operand} {ats : Array TypeId} {vs : Array Value} (S : St X w0 m0 (A ++ R) m w) (hk : knows L args.toList = true) (hf : callable P f = true)
    (hc : Calls P f vs w (RetO k e Rel m w xs)) (hv : args.toList.map (evF L) = vs.toList) (hn : Nat.blt d n = true) (h : ∀ Ro v w', St X w0 m0 (A ++ (Ro ++ R)) m w' → Own k e Rel m Ro v xs → WL P ops Q rest n ((d, v) :: L) w') :
    WL P ops Q ({ dst := some d, op := .call { callee := .value (.func f), args := args, argTypes := ats }, type := typ, pos := pos, after := af, guard := none } :: rest) n L w :=
  s_call hk (arrmap hv) hf (Rl := fun u w' => ∃ Ro, Bel [] w w' ∧ Own k e Rel m Ro u xs ∧ NewBox Ro w w') (hc.mono fun en w' ⟨v, Ro, he, hb, hO, hN⟩ => ⟨v, he, Ro, hb, hO, hN⟩) hn fun u w' ⟨Ro, hb, hO, hN⟩ => h Ro u w' ((S.newBox hb hN).swap) hO
/-- Leaving with a slice of one's own. -/
theorem f_retO [Upr Rel] {fn : Func} {rs : List ResultVar} {vs : List Value} {v : Value} (S : St [] w0 m0 (A ++ (Ro ++ R)) m w) (hm : m = m0) (hr : fn.results = rs.toArray) (h : Res P L w rs vs) (hv : packV vs = v) (O : Own k e Rel m Ro v xs) : WE (bodyPost P fn (RetO k e Rel m0 w0 xs)) .ret n L w :=
  fun a H => ret_ok H hr h ⟨v, Ro, by rw [hv], S.bel, by rw [← hm]; exact O, by
    have S' := S.swap
    obtain ⟨⟨cells, h1, h2⟩, h3⟩ := O
    generalize xs.length = nn at h1
    cases h1 with
    | nil => exact .inl rfl
    | @row b arr E n' cap cells a1 a2 a3 a4 a5 =>
      have hb := S'.boxes 0 _ rfl
      exact .inr ⟨b, _, rfl, hb.1.resolve_right (by simp), hb.2.1⟩⟩
theorem f_endO [Upr Rel] {fn : Func} {rs : List ResultVar} {vs : List Value} {v : Value} (S : St [] w0 m0 (A ++ (Ro ++ R)) m w) (hm : m = m0) (hr : fn.results = rs.toArray) (h : Res P L w rs vs) (hv : packV vs = v) (O : Own k e Rel m Ro v xs) : WE (bodyPost P fn (RetO k e Rel m0 w0 xs)) .normal n L w := f_retO S hm hr h hv O
/-- `append(nil, n)`: so many zeros (what Go's compiler makes of slices.Grow), cut to none. -/
theorem s_zeros {i : Int} (n2 : Nat) (hT : P.underlying T = some (.slice E)) (hE : tyOf P E = some (z, k, e, g)) (hz : z.cells.size = k) (he : 1 ≤ e) {ik : IntKind} (hU : P.underlying U = some (.int ik))
    (S : St X w0 m0 (A ++ R) m w) (hx : ev L x = some (.slice none 0 0)) (hy : ev L y = some (.int .i64 i)) (hi : i = (n2 : Int)) (h0 : 0 < n2) (hb : n2 * e ≤ 140737488355328) (hn : Nat.blt d n = true)
    (h : ∀ b arr cap w', St X w0 m0 (A ++ ([(b, .cells arr E)] ++ R)) m w' → arr.size = cap * k → n2 ≤ cap → cap ≤ 9223372036854775807 → WL P ops Q rest n ((d, .slice (some ⟨b, 0, none⟩) n2 cap) :: L) w') :
    WL P ops Q ({ dst := some d, op := .call { callee := .builtin .append, args := #[x, y], argTypes := #[T, U] }, type := typ, pos := pos, after := af, guard := none } :: rest) n L w := by
  subst hi
  obtain ⟨ti, u, hti, hu, hiz, hik, hie, hg⟩ := tyOf_parts hE
  have hmul : n2 * 1 ≤ n2 * e := Nat.mul_le_mul_left _ he
  have hwrap : IntKind.i64.wrap (n2 : Int) = n2 := wrap_i64 ⟨by omega, by omega⟩
  have hfit := growslice_fits (need := 0 + n2) (old := 0) (bytes := e) (by omega) (by simpa using hb)
  let nc := (Question.appendCap (0 + n2) 0 E).cut (w.tape w.drawn (.appendCap (0 + n2) 0 E))
  have hnc : n2 ≤ nc := by show n2 ≤ _; simp only [Question.cut, nc]; omega
  have hnc2 : nc ≤ 9223372036854775807 := by
    have h := Nat.mod_lt (w.tape w.drawn (.appendCap (0 + n2) 0 E)) (show 0 < 2 ^ 63 - (0 + n2) by omega)
    show (0 + n2) + _ % (2 ^ 63 - (0 + n2)) ≤ _
    omega
  let arr := #[] ++ (if n2 * k = 0 then #[] else Builtin.zeroCells z.cells n2) ++ Builtin.zeroCells z.cells (nc - (0 + n2))
  have hr : (Builtin.append_ #[T, U] typ #[.slice none 0 0, .int .i64 (n2 : Int)]).run P w = .ok (.slice (some ⟨w.heap.size, 0, none⟩) (0 + n2) nc) (w.drew.alloc (.cells arr E)) := by
    have hq : (choose (.appendCap (0 + n2) 0 E)).run P w = .ok nc w.drew := by
      simp only [run_choose, Question.forced, Bool.false_eq_true, if_false]; rfl
    have hti' : ∀ w, (typeInfo E).run P w = .ok ti w := fun w => by simp [typeInfo, hti]
    have hold : ∀ w, (Builtin.firstCells k 0 (.slice none 0 0)).run P w = .ok #[] w := fun w => by simp [Builtin.firstCells]
    have c1 : ¬ ((n2 : Int) < 0) := by omega
    have c2 : ¬ ((n2 : Int) * (e : Int) > 2 ^ 48) := by
      have : (n2 : Int) * (e : Int) = ((n2 * e : Nat) : Int) := by simp
      rw [this]; omega
    have c3 : ¬ (0 + n2 ≤ 0) := by omega
    have c4 : ¬ (((0 + n2 : Nat) : Int) > IntKind.i64.max ∧ True) := by
      intro hh; have : IntKind.i64.max = 9223372036854775807 := by decide
      omega
    have c5 : ¬ (Builtin.nextslicecap (0 + n2) 0 * e > 2 ^ 48) := by omega
    have e0 : (#[T, U] : Array TypeId)[0]? = some T := rfl
    have e1 : (#[T, U] : Array TypeId)[1]? = some U := rfl
    have e2 : (#[Value.slice none 0 0, .int .i64 (n2 : Int)] : Array Value)[0]? = some (.slice none 0 0) := rfl
    have e3 : (#[Value.slice none 0 0, .int .i64 (n2 : Int)] : Array Value)[1]? = some (.int .i64 (n2 : Int)) := rfl
    have hai : (asInt (.int .i64 (n2 : Int))).run P w = .ok (n2 : Int) w := rfl
    have hnew : ∀ w, (if n2 * k = 0 then pure #[] else do pure (Builtin.zeroCells (← zeroValue E).cells n2) : Sem (Array Value)).run P w = .ok (if n2 * k = 0 then #[] else Builtin.zeroCells z.cells n2) w := fun w => by
      split
      · rfl
      · simp only [Sem.run_bind, run_zero hE, Result.andThen_ok, Sem.run_pure]
    simp only [Builtin.append_, e0, e1, e2, e3, Sem.run_bind, run_underlying hT, run_underlying hU, Result.andThen_ok, run_sizeOf hE, Sem.run_pure, if_true, hai, hwrap, if_neg c1, hti', Int.toNat_natCast, hie, true_or, Bool.not_true, Bool.false_eq_true, if_false]
    rw [if_neg c2]
    simp only [Sem.run_bind, Sem.run_pure, Result.andThen_ok]
    rw [if_neg c3]
    simp only [Sem.run_bind, hti', Result.andThen_ok]
    rw [if_neg c4]
    simp only [Sem.run_bind, hti', Result.andThen_ok, hie]
    rw [if_neg c5]
    simp only [Sem.run_bind, hq, hti', Result.andThen_ok, run_askRoom, hold, hnew, run_zero hE, newRow, run_newObj, Sem.run_pure]
    rfl
  refine s_op (.slice (some ⟨w.heap.size, 0, none⟩) n2 nc) rfl rfl hn (by simpa [knowsOp, opnds, callL] using knows2 hx hy) (w' := w.drew.alloc (.cells arr E)) (by
    simp only [execOp, resolve, invoke, builtin, Sem.run_bind, Sem.run_pure, Result.andThen_ok]
    rw [show (#[x, y] : Array Operand).map (evF L) = #[.slice none 0 0, .int .i64 (n2 : Int)] by simp [evF_eq hx, evF_eq hy]]
    simp only [hr, Result.andThen_ok, Nat.zero_add]) (h w.heap.size arr nc _ ?_ ?_ hnc hnc2)
  · exact ((S.step (Bel.drew [] w)).box (.cells arr E)).swap (R1 := [(w.heap.size, .cells arr E)])
  · have h5 : n2 * k + (nc - n2) * k = nc * k := by rw [← Nat.add_mul]; congr 1; omega
    have h6 : (if n2 * k = 0 then (#[] : Array Value) else Builtin.zeroCells z.cells n2).size = n2 * k := by
      split
      · rename_i hh; simp [hh]
      · simp [zeroCells_size, hz]
    simp only [arr, Array.size_append, h6, zeroCells_size, hz, Nat.zero_add]
    simpa using h5
end
end Gw
namespace Gw
open Go Go.RowKit

section
variable {P : Program} {ops : Array Oper} {md : Region.Mode} {w : World}
/-! ### A drawn region whose first moves may come at any time: they are done first -/
/-- Each operation from s on ahead of n is waited for, by one up to n. -/
def sinkFrom (md : Region.Mode) (ops : Array Oper) (s n : Nat) : Bool :=
  (List.range n).all fun i => decide (i < s) || (List.range (n + 1)).any fun j => decide (i < j) && Region.waitsFor md ops j i

theorem tail_later {s n : Nat} {listed : Array Bool} (hs : sinkFrom md ops s n = true) (hc : Region.chainB md ops n = true) (hn : n < ops.size) (inv : HeadInv md ops n listed) (h0 : ∀ i, i < s → listed.getD i false = true) :
    ∀ (d i : Nat), n - i = d → i < n → listed.getD i true = false → ∀ t, n ≤ t → t ∉ Region.ready md ops listed := by
  intro d
  induction d using Nat.strongRecOn with
  | _ d ih =>
    intro i hd hi hun t ht hr
    have hb0 := getD_both hun
    obtain ⟨_, ot, hot, hall⟩ := mem_ready.1 hr
    have htlt : t < ops.size := (Array.getElem?_eq_some_iff.1 hot).1
    rcases Nat.lt_or_ge n t with htn | htn
    · have h1 := List.all_eq_true.1 hc t (List.mem_range.2 htlt)
      rw [Bool.or_eq_true, decide_eq_true_eq] at h1
      have h2 := h1.resolve_left (by omega)
      obtain ⟨o, ho, e, he, hb, hon⟩ := Region.waitsFor_spec h2
      obtain rfl : o = ot := Option.some.inj (ho.symm.trans hot)
      have h3 := hall e he hb
      rw [hon, getD_both (inv.tail (t - 1) (by omega) (by omega))] at h3
      cases h3
    · obtain rfl : t = n := by omega
      have h1 := List.all_eq_true.1 hs i (List.mem_range.2 hi)
      rw [Bool.or_eq_true, decide_eq_true_eq] at h1
      have h2 := h1.resolve_left (fun h => by rw [h0 i h] at hb0; cases hb0)
      obtain ⟨j, hj, hj2⟩ := List.any_eq_true.1 h2
      rw [Bool.and_eq_true, decide_eq_true_eq] at hj2
      obtain ⟨oj, hoj, e, he, hb, hon⟩ := Region.waitsFor_spec hj2.2
      have hjle := List.mem_range.1 hj
      cases hl : listed.getD j false with
      | true =>
        have h3 := inv.closed j oj hoj hl e he hb
        rw [hon, hb0] at h3
        cases h3
      | false =>
        rcases Nat.lt_or_ge j t with hjt | hjt
        · exact ih (t - j) (by omega) j rfl hjt (getD_in (by rw [inv.size]; omega) hl) t (Nat.le_refl _) hr
        · obtain rfl : j = t := by omega
          obtain rfl : oj = ot := Option.some.inj (hoj.symm.trans hot)
          have h3 := hall e he hb
          rw [hon, hb0] at h3
          cases h3

theorem anyL_first {s n i : Nat} {oi : Oper} {v : Value} {L : Array Bool → Act → Prop} (hi : ops[i]? = some oi) (hsel : ∀ (j : Nat) (o : Oper) cs b, ops[j]? = some o → o.op ≠ .select cs b)
    (hs : sinkFrom md ops s n = true) (hc : Region.chainB md ops n = true) (hn : n < ops.size) (hin : i < n)
    (hdone : ∀ listed a, L listed a → ∀ j ∈ Region.ready md ops listed, n ≤ j) :
    ∀ (f : Nat) (listed : Array Bool) (a : Act), HeadInv md ops n listed → (∀ i, i < s → listed.getD i false = true) →
      (∀ j oj, ops[j]? = some oj → j ≠ i → listed.getD j true = false → (∀ e ∈ oj.after, Region.binds md e = true → e.on ≠ i) → oi.apart ops oj = true) →
      i ∈ Region.ready md ops listed → YieldsAt P ops w oi v a →
      wpAnyL P md ops w n L f (listed.setIfInBounds i true) (a.put oi.dst v) → wpAnyL P md ops w n L (f + 1) listed a := by
  intro f
  induction f with
  | zero =>
    intro listed a inv h0 _ hr hy H
    refine ⟨List.ne_nil_of_mem hr, fun j hj => ?_⟩
    have hjn : j < n := Nat.lt_of_not_le fun h => tail_later hs hc hn inv h0 _ i rfl hin (mem_ready.1 hr).1 j h hj
    refine ⟨hjn, ?_⟩
    rcases Nat.decEq j i with hji | rfl
    · exact absurd (hdone _ _ H j (ready_mono hj hji)) (by omega)
    · exact hy.stOp hi H
  | succ f ih =>
    intro listed a inv h0 hfree hr hy H
    have hun := (mem_ready.1 hr).1
    refine ⟨List.ne_nil_of_mem hr, fun j hj => ?_⟩
    have hjn : j < n := Nat.lt_of_not_le fun h => tail_later hs hc hn inv h0 _ i rfl hin hun j h hj
    refine ⟨hjn, ?_⟩
    rcases Nat.decEq j i with hji | rfl
    · obtain ⟨hjun, oj, hoj, hall⟩ := mem_ready.1 hj
      have hno : ∀ e ∈ oj.after, Region.binds md e = true → e.on ≠ i := fun e he hb heq => by
        have h1 := hall e he hb
        rw [heq, getD_both hun] at h1
        cases h1
      refine stOp_mono (fun a' h3 => ?_) (stOp_put hoj (hfree j oj hoj hji hjun hno) (fun cs b => hsel i oi cs b hi) (fun cs b => hsel j oj cs b hoj) hy (H.2 j (ready_mono hj hji)).2)
      refine ih (listed.setIfInBounds j true) a' (inv.set hj hjn) (fun q hq => getD_set_true (h0 q hq)) (fun q oq hq hqi hqun => ?_) (ready_mono hr (Ne.symm hji)) h3.1 ?_
      · refine hfree q oq hq hqi ?_
        rcases Nat.decEq j q with hjq | rfl
        · rwa [getD_set_ne true hjq] at hqun
        · exact hjun
      · rw [Array.setIfInBounds_comm _ _ hji]
        exact h3.2
    · exact hy.stOp hi H

theorem anyL_lex {s n g : Nat} {Lq : Act → Prop} (hsel : Region.noSelect ops = true) (hs : sinkFrom md ops s n = true) (hc : Region.chainB md ops n = true) (hn : n < ops.size) :
    ∀ (l : List Oper) (k : Nat) (listed : Array Bool) (a : Act), (∀ j, j < l.length → l[j]? = ops[k + j]?) → k + l.length = n → HeadInv md ops n listed → (∀ i, i < s → listed.getD i false = true) →
    Region.lexHead md ops g l.length k listed = true → wpStill P ops w Lq l a →
    wpAnyL P md ops w n (fun listed' a' => Region.seqB md ops g n listed' = true ∧ Lq a') l.length listed a
  | [], k, listed, a, _, hk, _, _, hB, h => by
    obtain rfl : k = n := by simpa using hk
    exact ⟨by simpa [Region.lexHead] using hB, h⟩
  | o :: l, k, listed, a, hl, hk, inv, h0, hB, h => by
    have he : ops[k]? = some o := by simpa using (hl 0 (by simp)).symm
    simp only [List.length_cons, Region.lexHead, Bool.and_eq_true] at hB
    rw [List.length_cons] at hk
    have hr : k ∈ Region.ready md ops listed := by simpa using hB.1.1
    obtain ⟨v, hy, hK⟩ := yieldsAt_of_stOp he (show stOp P ops w k (wpStill P ops w Lq l) a by unfold stOp; simp only [he]; exact h)
    refine anyL_first he (Region.noSelect_spec hsel) hs hc hn (by omega) (fun listed' a' hL => seqB_ready hL.1) l.length listed a inv h0 (Region.free_spec he hB.1.2) hr hy ?_
    exact anyL_lex hsel hs hc hn l (k + 1) _ _ (fun j hj => by have := hl (j + 1) (by simp; omega); simpa [Nat.add_assoc, Nat.add_comm 1 j] using this) (by omega) (inv.set hr (by omega)) (fun q hq => getD_set_true (h0 q hq)) hB.2 hK

/-- A move, whatever the road. -/
def isMove (ops : Array Oper) (k : Nat) : Bool := match ops[k]? with
  | some o => (match o.op with | .move _ => o.guard.isNone | _ => false)
  | none => false
/-- The first s may be done first; then what only looks, then a row. -/
def floatB (md : Region.Mode) (ops : Array Oper) (n : Nat) : Nat → Nat → Array Bool → Bool
  | 0, k, listed => sinkFrom md ops k n && Region.lexHead md ops (ops.size - n) (n - k) k listed
  | s + 1, k, listed => decide (k < n) && isMove ops k && (Region.ready md ops listed).contains k && Region.free md ops listed k && floatB md ops n s (k + 1) (listed.setIfInBounds k true)

theorem isMove_yields {k : Nat} {o : Oper} {a : Act} (hk : ops[k]? = some o) (h : isMove ops k = true) : ∃ v, Yields P ops o v a ∧ ∀ (F : Act → Prop), o.still P a w F → F (a.put o.dst v) := by
  unfold isMove at h
  rw [hk] at h
  obtain ⟨dst, op, ty, ps, af, gd⟩ := o
  cases op with
  | move x =>
    cases gd with
    | none =>
      refine ⟨a.eval x, .inl ⟨by simp [Region.wanted], fun w => rfl⟩, fun F hF => ?_⟩
      unfold Oper.still at hF
      rw [show (execOp a.eval { dst := dst, op := Op.move x, type := ty, pos := ps, after := af, guard := Option.none }).run P w = .ok (.value (a.eval x)) w from rfl, Oper.stillUpon_value] at hF
      exact hF
    | some g => simp at h
  | _ => simp at h

theorem any_float {n : Nat} {Q : Exit → Act → World → Prop} (hsel : Region.noSelect ops = true) (hc : Region.chainB md ops n = true) (hn : n < ops.size) (hQ : ∀ c a w, ¬ Q (.panic c) a w) :
    ∀ (s : Nat) (l : List Oper) (k : Nat) (listed : Array Bool) (a : Act), (∀ j, j < l.length → l[j]? = ops[k + j]?) → k + l.length = n → HeadInv md ops n listed → (∀ i, i < k → listed.getD i false = true) →
    floatB md ops n s k listed = true → wpStill P ops w (fun a' => wpList P ops Q (ops.toList.drop n) a' w) l a → wpAny P md ops Q (l.length + (ops.size - n)) listed a w
  | 0, l, k, listed, a, hl, hk, inv, h0, hB, h => by
    simp only [floatB, Bool.and_eq_true] at hB
    rw [show n - k = l.length by omega] at hB
    refine wpAny_of_head (fun listed' a' hL => ?_) _ _ _ (anyL_lex hsel hB.1 hc hn l k listed a hl hk inv h0 hB.2 h)
    have hdl : (ops.toList.drop n).length = ops.size - n := by simp
    have := wpAny_of_seq (md := md) (Q' := Q) (ops.toList.drop n) n listed' a' w (fun j => by simp [List.getElem?_drop]) (by rw [hdl]; exact hL.1) hL.2
    rwa [hdl] at this
  | s + 1, [], k, listed, a, hl, hk, inv, h0, hB, h => by
    simp only [floatB, Bool.and_eq_true] at hB
    simp only [List.length_nil, Nat.add_zero] at hk
    subst hk
    exact absurd (of_decide_eq_true hB.1.1.1.1) (Nat.lt_irrefl _)
  | s + 1, o :: l, k, listed, a, hl, hk, inv, h0, hB, h => by
    have he : ops[k]? = some o := by simpa using (hl 0 (by simp)).symm
    simp only [floatB, Bool.and_eq_true] at hB
    rw [List.length_cons] at hk
    have hr : k ∈ Region.ready md ops listed := by simpa using hB.1.1.2
    obtain ⟨v, hy, hF⟩ := isMove_yields (P := P) (w := w) (a := a) he hB.1.1.1.2
    have hw : Region.wanted o (yielded ops a.tmps) = true ∨ Region.wanted o (yielded ops a.tmps) = false := by cases Region.wanted o (yielded ops a.tmps) <;> simp
    have hK : wpStill P ops w (fun a' => wpList P ops Q (ops.toList.drop n) a' w) l (a.put o.dst v) := by
      unfold wpStill at h
      rcases hy with ⟨h1, h2⟩ | ⟨h1, h2⟩
      · rw [if_pos h1] at h; exact hF _ h
      · rw [if_neg (by simp [h1])] at h; rw [h2]; exact h
    rw [List.length_cons, show l.length + 1 + (ops.size - n) = (l.length + (ops.size - n)) + 1 by omega]
    refine wpAny_take he hsel hB.1.2 hB.1.1.2 (fun c a w hp => absurd hp (hQ c _ _)) hy ?_
    exact any_float hsel hc hn hQ s l (k + 1) _ _ (fun j hj => by have := hl (j + 1) (by simp; omega); simpa [Nat.add_assoc, Nat.add_comm 1 j] using this) (by omega) (inv.set hr (by omega))
      (fun i hi => by
        rcases Nat.decEq i k with hik | rfl
        · exact getD_set_true (h0 i (by omega))
        · have hsz : i < listed.size := by rw [inv.size]; exact (Array.getElem?_eq_some_iff.1 he).1
          simp [hsz]) hB.2 hK

/-- The check of a region: s first moves, what only looks up to n, a row behind. -/
def floatTailB (ops : Array Oper) (s n : Nat) : Bool :=
  decide (s ≤ n) && Region.noSelect ops && decide (n < ops.size) && Region.chainB .any ops n && floatB .any ops n s 0 (Array.replicate ops.size false)

theorem wp_region_float {id s : Nat} {Q : Exit → Act → World → Prop} {a : Act} {w : World} {l : List Oper} (n : Nat) (hm : P.follows .mixedOrders = true) (hB : floatTailB l.toArray s n = true)
    (h : wpStill P l.toArray w.drew (fun a' => wpList P l.toArray (NoPanic Q) (l.drop n) a' w.drew) (l.take n) a) : (Code.region id l.toArray true).wp P Q a w := by
  simp only [floatTailB, Bool.and_eq_true, decide_eq_true_eq] at hB
  obtain ⟨⟨⟨⟨hsn, hsel⟩, hn⟩, hc⟩, hf⟩ := hB
  have hn' : n < l.length := by simpa using hn
  have inv0 : HeadInv .any l.toArray n (Array.replicate l.toArray.size false) :=
    ⟨by simp, fun j oj _ hl => (by rw [getD_replicate_false] at hl; cases hl), fun t _ ht => getD_in (by simpa using ht) (getD_replicate_false _ _)⟩
  refine wp_region_noPanic (wp_region_any hm ?_)
  have := any_float (md := .any) (w := w.drew) (P := P) (Q := NoPanic Q) hsel hc hn (fun c a w hp => hp) s (l.take n) 0 _ a (fun j hj => by
    have hj' : j < n := by simp at hj; omega
    simp [hj']) (by simp; omega) inv0 (fun i hi => absurd hi (by omega)) hf h
  rwa [show (l.take n).length + (l.toArray.size - n) = l.toArray.size by simp; omega] at this

variable {Q : Exit → Act → World → Prop} {n : Nat} {L : Slots}
theorem c_float {y' : Code} {id : Nat} {l : List Oper} (s N : Nat) (hm : P.follows .mixedOrders = true) (hB : floatTailB l.toArray s N = true)
    (h : WK P l.toArray (NoPanic (Exit.then (y'.wp P Q) Q)) w.drew N l n L) : WC P (Code.seq (Code.region id l.toArray true) y') Q n L w := fun a H =>
  wp_seq (wp_region_float N hm hB (h a H))
theorem c_float1 {id : Nat} {l : List Oper} (s N : Nat) (hm : P.follows .mixedOrders = true) (hB : floatTailB l.toArray s N = true)
    (h : WK P l.toArray (NoPanic Q) w.drew N l n L) : WC P (Code.region id l.toArray true) Q n L w := fun a H =>
  wp_region_float N hm hB (h a H)
theorem s_np (h : WL P ops Q [] n L w) : WL P ops (NoPanic Q) [] n L w := fun a H => h a H
end
end Gw
namespace Gw
open Go Go.RowKit
section
variable {P : Program} {ops : Array Oper} {Q : Exit → Act → World → Prop} {rest : List Oper} {n : Nat} {L : Slots} {w w0 : World} {X : List Nat} {R : Boxes} {m m0 : Mem}
variable {d d2 T E n1 : Nat} {typ typ2 : TypeId} {pos pos2 : String} {af af2 : Array Edge}
/-- A text's bytes, written out. -/
theorem s_lit {ps : Array (Nat × Operand)} (xs : List UInt8) (S : St X w0 m0 R m w) (hT : P.underlying T = some (.slice E)) (hE : P.underlying E = some (.int .u8)) (hk : knowsOp L (.buildSlice T n1 ps) = true)
    (hr : ∀ w, (Instr.buildSlice T n1 (ps.map fun (i, x) => (i, evF L x))).run P w = .ok (.slice (some ⟨w.heap.size, 0, none⟩) n1 n1) (w.alloc (.cells (xs.map fun b => Value.int .u8 b.toNat).toArray E))) (hn1 : n1 = xs.length) (hb : xs.length ≤ 140737488355328) (hn : Nat.blt d n = true) (hn2 : Nat.blt d2 n = true)
    (h : ∀ w' m' b, m.Le m' → St X w0 m0 R m' w' → Bys m' (some ⟨b, 0, none⟩) xs.length xs → WL P ops Q rest n ((d2, .slice (some ⟨b, 0, none⟩) xs.length xs.length) :: (d, .slice (some ⟨b, 0, none⟩) xs.length xs.length) :: L) w') :
    WL P ops Q ({ dst := some d, op := .buildSlice T n1 ps, type := typ, pos := pos, after := af, guard := none } :: { dst := some d2, op := .convert T T (.tmp d), type := typ2, pos := pos2, after := af2, guard := none } :: rest) n L w := by
  subst hn1
  let arr : Array Value := (xs.map fun b => Value.int .u8 b.toNat).toArray
  let w1 := w.alloc (.cells arr E)
  let w2 := w1.freeze ⟨w.heap.size, arr.size, none⟩ 1
  have hsh : (shape w.heap.size).run P w1 = .ok (some (E, arr.size)) w1 := by
    simp only [run_shape, World.shape?]
    rw [show w1.heap[w.heap.size]? = some (.cells arr E) from heap_alloc_new w _]
  have hc : (convert T T (.slice (some ⟨w.heap.size, 0, none⟩) xs.length xs.length)).run P w1 = .ok (.slice (some ⟨w.heap.size, 0, none⟩) xs.length xs.length) w2 := by
    simp only [convert, Sem.run_bind, run_underlying hT, run_underlying hE, Result.andThen_ok, BEq.rfl, markStringish, hsh]
    rfl
  have hh : ∀ k, w2.heap[k]? = if k = w.heap.size then some (.cells arr E (arr.size, arr.size + 1)) else w1.heap[k]? := fun k => by
    simp only [w2, World.freeze, Nat.one_ne_zero, if_false, Array.getElem?_modify]
    by_cases e : w.heap.size = k
    · subst e
      simp only [if_true]
      rw [show w1.heap[w.heap.size]? = some (.cells arr E) from heap_alloc_new w _]
      simp
    · rw [if_neg e, if_neg (fun h => e h.symm)]
  have hsz : w2.heap.size = w1.heap.size := by simp [w2, World.freeze]
  have hbel : Bel [] w w2 := by
    have h1 : Bel [] w w1 := Bel.alloc [] w _
    refine ⟨rfl, rfl, rfl, by rw [hsz]; exact h1.size, fun k hk hx => ?_⟩
    rw [hh k, if_neg (by omega)]
    exact h1.block k hk hx
  refine s_op (.slice (some ⟨w.heap.size, 0, none⟩) xs.length xs.length) rfl rfl hn hk (w' := w1) (by simp only [execOp, hr, Sem.run_bind, Result.andThen_ok, Sem.run_pure]; rfl) ?_
  have hx : ev ((d, Value.slice (some ⟨w.heap.size, 0, none⟩) xs.length xs.length) :: L) (.tmp d) = some (.slice (some ⟨w.heap.size, 0, none⟩) xs.length xs.length) := by simp [ev, lk]
  refine s_op (.slice (some ⟨w.heap.size, 0, none⟩) xs.length xs.length) rfl rfl hn2 (knows1 hx) (w' := w2) (by simp only [execOp, evF_eq hx, Sem.run_bind, hc, Result.andThen_ok, Sem.run_pure]) ?_
  refine h w2 _ _ (S.mem.le_grow w2) (S.grow hbel) ⟨Nat.le_refl _, by omega, .inr ⟨w.heap.size, 0, arr, E, (arr.size, arr.size + 1), rfl, ?_, fun i hi => ⟨eByte xs[i], rfl, fun j hj => ?_, rfl⟩⟩⟩
  · unfold grow
    rw [if_neg (by omega), hh, if_pos rfl]
  · have : j = 0 := by omega
    subst this
    rw [show 0 + i * 1 + 0 = i by omega]
    show ((xs.map fun b => Value.int .u8 b.toNat).toArray)[i]? = some (.int .u8 (xs[i].toNat : Int))
    simp [hi]
theorem s_offU {o : Oper} {i t : Nat} {b : Bool} (hg : o.guard = some (i, b)) (hd : o.dst = some d) (hn : Nat.blt d n = true) (hi : (ops[i]?).bind (·.dst) = some t)
    (ht : lk L t = some undef) (k : WL P ops Q rest n ((d, undef) :: L) w) : WL P ops Q (o :: rest) n L w := fun a H => by
  unfold wpList
  have hw : Region.wanted o (yielded ops a.tmps) = false := by
    unfold Region.wanted
    rw [hg]
    simp only
    unfold yielded
    rw [hi]
    have h2 := H.get t _ ht
    simp only [Option.bind_some]
    rw [Array.getD_eq_getD_getElem?] at h2
    cases h3 : a.tmps[t]? with
    | none => simp
    | some u => rw [h3] at h2; simp at h2; subst h2; simp [undef]
  rw [if_neg (by rw [hw]; simp), hd]
  exact k _ (H.put hn undef)
theorem q_offU {C : World → Prop} {F : Act → Prop} {o : Oper} {i t : Nat} {b : Bool} (hg : o.guard = some (i, b)) (hd : o.dst = some d) (hn : Nat.blt d n = true) (hi : (ops[i]?).bind (·.dst) = some t)
    (ht : lk L t = some undef) (k : WQ P ops C F rest n ((d, undef) :: L)) : WQ P ops C F (o :: rest) n L := fun a H => by
  unfold wpQuiet
  have hw : Region.wanted o (yielded ops a.tmps) = false := by
    unfold Region.wanted
    rw [hg]
    simp only
    unfold yielded
    rw [hi]
    have h2 := H.get t _ ht
    simp only [Option.bind_some]
    rw [Array.getD_eq_getD_getElem?] at h2
    cases h3 : a.tmps[t]? with
    | none => simp
    | some u => rw [h3] at h2; simp at h2; subst h2; simp [undef]
  rw [if_neg (by rw [hw]; simp), hd]
  exact k _ (H.put hn undef)
theorem t_offU {F : Act → Prop} {o : Oper} {i t : Nat} {b : Bool} (hg : o.guard = some (i, b)) (hd : o.dst = some d) (hn : Nat.blt d n = true) (hi : (ops[i]?).bind (·.dst) = some t)
    (ht : lk L t = some undef) (k : WT P ops w F rest n ((d, undef) :: L)) : WT P ops w F (o :: rest) n L := fun a H => by
  unfold wpStill
  have hw : Region.wanted o (yielded ops a.tmps) = false := by
    unfold Region.wanted
    rw [hg]
    simp only
    unfold yielded
    rw [hi]
    have h2 := H.get t _ ht
    simp only [Option.bind_some]
    rw [Array.getD_eq_getD_getElem?] at h2
    cases h3 : a.tmps[t]? with
    | none => simp
    | some u => rw [h3] at h2; simp at h2; subst h2; simp [undef]
  rw [if_neg (by rw [hw]; simp), hd]
  exact k _ (H.put hn undef)
theorem k_offU {o : Oper} {i t k : Nat} {b : Bool} (hg : o.guard = some (i, b)) (hd : o.dst = some d) (hn : Nat.blt d n = true) (hi : (ops[i]?).bind (·.dst) = some t) (ht : lk L t = some undef) (K : WK P ops Q w k rest n ((d, undef) :: L)) :
    WK P ops Q w (k + 1) (o :: rest) n L := t_offU hg hd hn hi ht K
end
end Gw
namespace Gw
open Go Go.RowKit
section
variable {P : Program} {α : Type} {Rel : Mem → List Value → α → Prop} {t e : TypeId} {k by_ : Nat}
/-- Whatever is handed in at this type is some a. -/
structure Opens (P : Program) (t : TypeId) (Rel : Mem → List Value → α → Prop) : Prop where
  at_ : ∀ {H : Type} (enc : TypeId × Value → H) (w : World) (fuel : Nat) (cs : List Value) (x : DataW H × List MemPlace), DataW.trod enc P w 0 (fun _ => true) true fuel t cs = some x → ∃ a, Rel (all w) cs a

theorem wf_i64 {n : Int} (h : (Lit.int .i64 n).wf = true) : I64 n := by
  simp [Lit.wf, IntKind.min, IntKind.max, IntKind.bits, IntKind.signed] at h
  exact ⟨by omega, by omega⟩
theorem wf_u8 {n : Int} (h : (Lit.int .u8 n).wf = true) : 0 ≤ n ∧ n ≤ 255 := by
  simp [Lit.wf, IntKind.min, IntKind.max, IntKind.bits, IntKind.signed] at h
  exact ⟨by omega, by omega⟩
theorem opens_byte (ht : P.underlying t = some (.int .u8)) : Opens P t (Enc eByte) := ⟨fun enc w fuel cs x h => by
  obtain ⟨n, rfl, hx, hw⟩ := DataW.trod_int ht h
  have := wf_u8 hw
  refine ⟨UInt8.ofNat n.toNat, ?_⟩
  show [Value.int .u8 n] = [.int .u8 ((UInt8.ofNat n.toNat).toNat : Int)]
  rw [UInt8.toNat_ofNat_of_lt' (by show n.toNat < 256; omega)]
  congr 2; omega⟩
theorem opens_int (ht : P.underlying t = some (.int .i64)) : Opens P t RInt := ⟨fun enc w fuel cs x h => by
  obtain ⟨n, rfl, hx, hw⟩ := DataW.trod_int ht h
  exact ⟨n, rfl, wf_i64 hw⟩⟩
theorem opens_bool (ht : P.underlying t = some .bool) : Opens P t (Enc fun b : Bool => [.bool b]) := ⟨fun enc w fuel cs x h => by
  obtain ⟨b, rfl, hx⟩ := DataW.trod_bool ht h
  exact ⟨b, rfl⟩⟩
theorem opens_str (ht : P.underlying t = some .string) : Opens P t RStr := ⟨fun enc w fuel cs x h => by
  obtain ⟨s, rfl, _, hs⟩ := DataW.trod_string ht h
  have hm : s.size ≤ 9223372036854775807 := hs
  exact ⟨s.data.toList, rfl, hm⟩⟩
theorem opens_slice (ht : P.underlying t = some (.slice e)) (hk : P.cellsOf e = k) (h1 : 1 ≤ k) (he : Opens P e Rel) : Opens P t (fun m cs (xs : List α) => ∃ oa cap, cs = [.slice oa xs.length cap] ∧ SlA k by_ Rel m oa cap xs) := ⟨fun enc w fuel cs x h => by
  rcases Go.Deep.open_slice ht h with ⟨rfl, _⟩ | ⟨a, len, cap, m, n, D, Pl, rfl, _, hl, hm, hmm, _, hx⟩
  · exact ⟨[], Option.none, 0, rfl, SlA.none⟩
  · simp only [if_true] at hmm
    obtain rfl : m = cap := hmm
    rw [hk] at hx
    have hz : m ≤ 9223372036854775807 := hm
    have h2 : ∀ i : Nat, i < len → ∃ y, ∃ cs' : List Value, cs'.length = k ∧ (∀ j, j < k → w.cell? (a.add (i * k + j)) = cs'[j]?) ∧ Rel (all w) cs' y := fun i hi => by
      obtain ⟨cs', h3, h4⟩ := hx i (by omega)
      obtain ⟨_, hlen, hc⟩ := World.cells?_some h3
      obtain ⟨y, hy⟩ := he.at_ enc w n cs' _ h4
      exact ⟨y, cs', hlen, fun j hj => by rw [← hc j hj, Go.Deep.add_add], hy⟩
    rcases Nat.eq_zero_or_pos len with rfl | hpos
    · exact ⟨[], some a, m, rfl, SlA.nil hz⟩
    obtain ⟨y0, cs0, l0, c0, _⟩ := h2 0 hpos
    haveI : Inhabited α := ⟨y0⟩
    obtain ⟨f, hf⟩ := Go.Deep.choose_lt h2
    have hc0 := c0 0 (by omega)
    rw [List.getElem?_eq_getElem (by omega)] at hc0
    have hsp := World.cell?_spot hc0
    obtain ⟨b, off, sp⟩ := a
    have hsp' : sp = Option.none := by simpa [Addr.add] using hsp
    subst hsp'
    have hb : ∃ arr T fz, w.heap[b]? = some (.cells arr T fz) := by
      simp only [add_none, World.cell?] at hc0
      split at hc0
      · rename_i c T fz hc; exact ⟨c, T, fz, hc⟩
      · cases hc0
    obtain ⟨arr, T, fz, hb⟩ := hb
    have hlen : ((List.range len).map f).length = len := by simp
    refine ⟨(List.range len).map f, some ⟨b, off, Option.none⟩, m, by rw [hlen], by rw [hlen]; exact hl, hz, .inr ⟨b, off, arr, T, fz, rfl, hb, fun i hi => ?_⟩⟩
    rw [hlen] at hi
    obtain ⟨cs', h3, h4, h5⟩ := hf i hi
    refine ⟨cs', h3, fun j hj => ?_, by simpa using h5⟩
    rw [← h4 j hj]
    simp only [add_none, World.cell?, hb, Option.isSome_none, Bool.false_eq_true, if_false]
    congr 1
    omega⟩
theorem opens_field {H : Type} {enc : TypeId × Value → H} {w : World} {fuel : Nat} (i o k : Nat) {T : TypeId} {fs : Array Field} {f : Field} {cs : List Value} {x : DataW H × List MemPlace} (ht : P.underlying t = some (.struct fs)) (hf : fs[i]? = some f) (hT : f.type = T) (ho : f.offset = o) (hk : P.cellsOf T = k) (hO : Opens P T Rel)
    (h : DataW.trod enc P w 0 (fun _ => true) true fuel t cs = some x) : ∃ a, Rel (all w) ((cs.drop o).take k) a := by
  subst hT ho hk
  obtain ⟨xs, n, _, _, _, hl, hx⟩ := DataW.trod_struct ht h
  have hi : i < fs.size := (Array.getElem?_eq_some_iff.1 hf).1
  have := hx i f hf
  rw [List.getElem?_eq_getElem (by omega)] at this
  exact hO.at_ enc w n _ _ this
theorem opens_width {H : Type} {enc : TypeId × Value → H} {w : World} {fuel : Nat} {fs : Array Field} {cs : List Value} {x : DataW H × List MemPlace} (ht : P.underlying t = some (.struct fs))
    (h : DataW.trod enc P w 0 (fun _ => true) true fuel t cs = some x) : cs.length = P.cellsOf t := by
  obtain ⟨xs, n, _, _, h, _⟩ := DataW.trod_struct ht h
  exact h
theorem open_val {H : Type} {enc : TypeId × Value → H} {w : World} {v : Value} {d : DataW H} {ps : List MemPlace} (hO : Opens P t Rel) (h : DataW.Trod enc P w 0 (fun _ => true) true t v d ps) : ∃ a, Rel (all w) v.cells.toList a := by
  obtain ⟨fuel, hf⟩ := h
  exact hO.at_ enc w fuel _ _ hf
theorem all_sub (w : World) : Sub (all w) w := fun b o h => h
end
end Gw
