/- A calculus of what functions come to, part a: what is said holds in every world; conditions stand in each theorem. -/
import Derived.Deep.Quiet
import Derived.KernelRfl
import Derived.WalkKit
set_option linter.unusedVariables false
set_option linter.unusedSimpArgs false
set_option linter.unusedSectionVars false
section PartBase1
namespace Gw
open Go Go.RowKit
abbrev Slots:=List (Nat × Value)
def lk:Slots→Nat→Option Value
 | [],_=>none
 | (k,v)::r,t=>match Nat.beq k t with|true=>some v|false=>lk r t
structure Has (n:Nat) (L:Slots) (a:Act):Prop where
 size:a.tmps.size=n
 defers:a.defers=[]
 get:∀ t v,lk L t=some v→a.tmps.getD t undef=v
section
variable {n:Nat} {L:Slots} {a:Act} {x:Operand} {v:Value} {d:Nat}
theorem Has.put (H:Has n L a) (hd:Nat.blt d n=true) (v:Value):Has n ((d,v)::L) (a.put (some d) v):=by
 have hd':d < n:=by simpa [Nat.blt_eq] using hd
 refine ⟨by simp [Act.put,H.size],by simp [Act.put,H.defers],fun t u h=>?_⟩
 by_cases e:d=t
 ·subst e
  have:v=u:=by
   have:lk ((d,v)::L) d=some v:=by simp [lk]
   rw [this] at h;exact Option.some.inj h
  subst this
  have hlt:d < a.tmps.size:=by rw [H.size];exact hd'
  simp [Act.put,Array.getD_eq_getD_getElem?,hlt]
 ·have hb:Nat.beq d t=false := by
   cases hb:Nat.beq d t
   ·rfl
   ·exact absurd (Nat.eq_of_beq_eq_true hb) e
  have h2:lk L t=some u:=by simpa [lk,hb] using h
  have:=H.get t u h2
  rw [←this]
  simp [Act.put,Array.getD_eq_getD_getElem?,e]
def sub (L' L:Slots):Bool:=L'.all fun p=>match lk L p.1 with|some _=>true|none=>false
theorem Has.keep (H:Has n L a) (L':Slots) (h:∀ t v,lk L' t=some v→lk L t=some v):Has n L' a :=
 ⟨H.size,H.defers,fun t v e=>H.get t v (h t v e)⟩
def pickSlots (L:Slots):List Nat→Slots
 | []=>[]
 | t::r=>match lk L t with|some v=>(t,v)::pickSlots L r|none=>pickSlots L r
theorem lk_pick (L:Slots):∀ (ts:List Nat) (t:Nat) (v:Value),lk (pickSlots L ts) t=some v→lk L t=some v
 | [],t,v,h=>by simp [pickSlots,lk] at h
 | s::r,t,v,h=>by
  unfold pickSlots at h
  cases hs:lk L s with
  | none=>rw [hs] at h;exact lk_pick L r t v h
  | some u =>
   rw [hs] at h
   by_cases e:Nat.beq s t=true
   ·have:s=t:=Nat.eq_of_beq_eq_true e
    subst this
    simp [lk] at h
    rw [hs,h]
   ·have e':Nat.beq s t=false := by
     cases hb:Nat.beq s t
     ·rfl
     ·exact absurd hb e
    simp only [lk,e'] at h
    exact lk_pick L r t v h
theorem Has.only (H:Has n L a) (ts:List Nat) {L':Slots} (h:pickSlots L ts=L'):Has n L' a :=
 H.keep L' fun t v e=>lk_pick L ts t v (by rw [h];exact e)
end
def slotsOf:Nat→List Value→Slots
 | _,[]=>[]
 | i,v::r=>(i,v)::slotsOf (i+1) r
theorem lk_slotsOf:∀ (i:Nat) (vs:List Value) (t:Nat) (v:Value),lk (slotsOf i vs) t=some v→i≤t∧vs[t-i]?=some v
 | i,[],t,v,h=>by simp [slotsOf,lk] at h
 | i,u::r,t,v,h=>by
  unfold slotsOf lk at h
  cases e:Nat.beq i t with
  | true =>
   have:i=t:=Nat.eq_of_beq_eq_true e
   subst this
   simp at h
   simp [h]
  | false =>
   simp only [e] at h
   have ⟨h1,h2⟩:=lk_slotsOf (i+1) r t v h
   refine ⟨by omega,?_⟩
   have:t-i=(t-(i+1))+1:=by omega
   rw [this];simpa using h2
theorem enter {P:Program} {f:FuncId} {fn:Func} {c:Code} {args:List Value} {w:World} {R:Ending→World→Prop} {n:Nat}
  (hf:P.funcs[f]?=some fn) (hb:fn.body=some c) (hn:fn.ntmps=n) (hl:Nat.ble args.length n=true)
  (h:∀ a,Has n (slotsOf 0 args) a→c.wp P (bodyPost P fn R) a w):Calls P f args.toArray w R:=by
 refine calls_of_wp hf hb (h _ ⟨?_,rfl,fun t v e=>?_⟩)
 ·have:args.length≤n:=by simpa [Nat.ble_eq] using hl
  simp [hn];omega
 ·have ⟨_,h2⟩:=lk_slotsOf 0 args t v e
  have h3:args[t]?=some v:=by simpa using h2
  have hlt:t < args.length:=by
   rcases Nat.lt_or_ge t args.length with h|h
   ·exact h
   ·simp [List.getElem?_eq_none h] at h3
  rw [List.getElem?_eq_getElem hlt] at h3
  simp [Array.getD_eq_getD_getElem?,Array.getElem?_append,hlt]
  exact Option.some.inj h3
def packV:List Value→Value
 | [v]=>v
 | vs=>.tuple vs.toArray
inductive Res (P:Program) (L:Slots) (w:World):List ResultVar→List Value→Prop
 | nil:Res P L w [] []
 | tmp {t v r vs} (h:lk L t=some v) (k:Res P L w r vs):Res P L w (.tmp t::r) (v::vs)
 | cell {t T p v r vs} (h:lk L t=some (.pointer (some p))) (hl:(loadVar T p).run P w=.ok v w) (k:Res P L w r vs):Res P L w (.cell t T::r) (v::vs)
def rv (tm:Array Value):ResultVar→Sem Value
 | .tmp t=>pure (tm.getD t undef)
 | .cell c t=>do loadVar t (←asAddr (tm.getD c undef))
theorem results_eq (fn:Func) (tm:Array Value):results fn tm=(do let vs ←fn.results.mapM (rv tm);pure (if h:vs.size=1 then vs[0] else .tuple vs)):=by
 unfold results
 have:(fun|ResultVar.tmp t=>(pure (tm.getD t undef):Sem Value)|.cell c t=>do loadVar t (←asAddr (tm.getD c undef)))=rv tm:=by
  funext x;cases x<;>rfl
 rw [←this];rfl
theorem Res.run {P:Program} {n:Nat} {L:Slots} {w:World} {a:Act} (H:Has n L a) {rs:List ResultVar} {vs:List Value} (h:Res P L w rs vs) :
  (rs.mapM (rv a.tmps)).run P w=.ok vs w:=by
 induction h with
 | nil=>rfl
 | tmp h k ih=>simp only [List.mapM_cons,rv,H.get _ _ h,Sem.run_bind,Sem.run_pure,Result.andThen_ok,ih]
 | @cell t T p v r vs h hl k ih =>
  have e:(asAddr (.pointer (some p))).run P w=.ok p w:=rfl
  simp only [List.mapM_cons,rv,H.get _ _ h,e,hl,Sem.run_bind,Sem.run_pure,Result.andThen_ok,ih]
end Gw
end PartBase1
section PartBase2
namespace Gw
open Go Go.RowKit
structure Bel (X:List Nat) (w w':World):Prop where
 os:w'.os=w.os
 tape:w'.tape=w.tape
 output:w'.output=w.output
 size:w.heap.size≤w'.heap.size
 block:∀ k,k < w.heap.size→k ∉ X→w'.heap[k]?=w.heap[k]?
theorem Bel.refl (X:List Nat) (w:World):Bel X w w:=⟨rfl,rfl,rfl,Nat.le_refl _,fun _ _ _=>rfl⟩
theorem Bel.trans {X:List Nat} {a b c:World} (h:Bel X a b) (k:Bel X b c):Bel X a c :=
 ⟨k.os.trans h.os,k.tape.trans h.tape,k.output.trans h.output,Nat.le_trans h.size k.size,fun i hi hx=>(k.block i (Nat.lt_of_lt_of_le hi h.size) hx).trans (h.block i hi hx)⟩
theorem Bel.weaken {X Y:List Nat} {a b:World} (h:Bel X a b) (hs:∀ k,k < a.heap.size→k∈X→k∈Y):Bel Y a b :=
 ⟨h.os,h.tape,h.output,h.size,fun i hi hy=>h.block i hi fun hx=>hy (hs i hi hx)⟩
theorem Bel.below {w w':World} (h:Bel [] w w'):Below w.heap.size w w':=⟨h.os,h.tape,h.output,h.size,fun k hk=>h.block k hk (by simp)⟩
theorem Bel.of_below {w w':World} (h:Below w.heap.size w w'):Bel [] w w':=⟨h.os,h.tape,h.output,h.size,fun k hk _=>h.block k hk⟩
theorem Bel.alloc (X:List Nat) (w:World) (o:Obj):Bel X w (w.alloc o) :=
 ⟨rfl,rfl,rfl,by simp,fun k hk _=>by show (w.heap.push o)[k]?=_;rw [Array.getElem?_push,if_neg (by omega)]⟩
theorem Bel.drew (X:List Nat) (w:World):Bel X w w.drew:=⟨rfl,rfl,rfl,Nat.le_refl _,fun _ _ _=>rfl⟩
theorem Bel.setCell {X:List Nat} (w:World) {a:Addr} (v:Value) (h:w.heap.size≤a.block∨a.block∈X):Bel X w (w.setCell a v) :=
 ⟨rfl,rfl,rfl,by simp,fun k hk hx=>by
  simp only [World.setCell,Array.getElem?_modify]
  rw [if_neg];intro e;rcases h with h|h
  ·omega
  ·exact hx (e ▸ h)⟩
theorem Bel.then {X Y:List Nat} {a b c:World} (h:Bel X a b) (k:Bel Y b c) (hy:∀ i,i∈Y→a.heap.size≤i∨i∈X):Bel X a c :=
 ⟨k.os.trans h.os,k.tape.trans h.tape,k.output.trans h.output,Nat.le_trans h.size k.size,fun i hi hx =>
  (k.block i (Nat.lt_of_lt_of_le hi h.size) fun e=>(hy i e).elim (fun h1=>by omega) hx).trans (h.block i hi hx)⟩
abbrev Mem:=Nat→Option Obj
def Mem.Le (m m':Mem):Prop:=∀ b o,m b=some o→m' b=some o
theorem Mem.Le.refl (m:Mem):m.Le m:=fun _ _ h=>h
theorem Mem.Le.trans {m m' m'':Mem} (h:m.Le m') (k:m'.Le m''):m.Le m'':=fun b o e=>k b o (h b o e)
def Sub (m:Mem) (w:World):Prop:=∀ b o,m b=some o→w.heap[b]?=some o
def grow (m:Mem) (w w':World):Mem:=fun b=>if b < w.heap.size then m b else w'.heap[b]?
theorem Sub.lt {m:Mem} {w:World} (h:Sub m w) {b:Nat} {o:Obj} (e:m b=some o):b < w.heap.size:=by
 have:=h b o e
 rcases Nat.lt_or_ge b w.heap.size with h|h
 ·exact h
 ·simp [Array.getElem?_eq_none h] at this
theorem Sub.le_grow {m:Mem} {w:World} (h:Sub m w) (w':World):m.Le (grow m w w'):=fun b o e=>by
 unfold grow;rw [if_pos (h.lt e)];exact e
def all (w:World):Mem:=fun b=>w.heap[b]?
def Mem.put (m:Mem) (b:Nat) (o:Obj):Mem:=fun k=>if k=b then some o else m k
abbrev Boxes:=List (Nat × Obj)
structure St (X:List Nat) (w0:World) (m0:Mem) (R:Boxes) (m:Mem) (w:World):Prop where
 bel:Bel X w0 w
 boxes:∀ (j:Nat) p,R[j]?=some p→(w0.heap.size≤p.1∨p.1∈X)∧w.heap[p.1]?=some p.2∧m p.1=none
 nodup:∀ (j k:Nat) p q,R[j]?=some p→R[k]?=some q→p.1=q.1→j=k
 mem:Sub m w
 low:∀ b o,m b=some o→b < w0.heap.size→m0 b=some o
section
variable {X:List Nat} {w0 w:World} {R:Boxes} {m m0:Mem}
theorem lt_of_heap {w:World} {b:Nat} {o:Obj} (h:w.heap[b]?=some o):b < w.heap.size:=by
 rcases Nat.lt_or_ge b w.heap.size with h'|h'
 ·exact h'
 ·simp [Array.getElem?_eq_none h'] at h
theorem St.lt (S:St X w0 m0 R m w) {j:Nat} {p:Nat × Obj} (h:R[j]?=some p):p.1 < w.heap.size:=lt_of_heap (S.boxes j p h).2.1
theorem St.start (hm:Sub m w):St [] w m [] m w:=⟨Bel.refl _ _,fun j p h=>by simp at h,fun j k p q h=>by simp at h,hm,fun _ _ h _=>h⟩
theorem St.step (S:St X w0 m0 R m w) {w':World} (h:Bel [] w w'):St X w0 m0 R m w' :=
 ⟨S.bel.then h (fun _ h=>by cases h),fun j p hp=>⟨(S.boxes j p hp).1,by rw [h.block _ (S.lt hp) (by simp)];exact (S.boxes j p hp).2.1,(S.boxes j p hp).2.2⟩,S.nodup,
  fun b o e=>by rw [h.block _ (S.mem.lt e) (by simp)];exact S.mem b o e,S.low⟩
theorem St.grow (S:St X w0 m0 R m w) {w':World} (h:Bel [] w w'):St X w0 m0 R (grow m w w') w' :=
 ⟨(S.step h).bel,fun j p hp=>⟨((S.step h).boxes j p hp).1,((S.step h).boxes j p hp).2.1,by unfold Gw.grow;rw [if_pos (S.lt hp)];exact (S.boxes j p hp).2.2⟩,S.nodup,
  fun b o e=>by
   unfold Gw.grow at e
   split at e
   ·exact (S.step h).mem b o e
   ·exact e,
  fun b o e hb=>by
   unfold Gw.grow at e
   rw [if_pos (Nat.lt_of_lt_of_le hb S.bel.size)] at e
   exact S.low b o e hb⟩
theorem heap_alloc_new (w:World) (o:Obj):(w.alloc o).heap[w.heap.size]?=some o:=by
 show (w.heap.push o)[w.heap.size]?=_
 simp
theorem St.box (S:St X w0 m0 R m w) (o:Obj):St X w0 m0 ((w.heap.size,o)::R) m (w.alloc o):=by
 have T:=S.step (Bel.alloc [] w o)
 refine ⟨T.bel,fun j p hp=>?_,fun j k p q hp hq e=>?_,T.mem,S.low⟩
 ·cases j with
  | zero =>
   simp at hp;subst hp
   refine ⟨.inl S.bel.size,heap_alloc_new w o,?_⟩
   cases hm:m w.heap.size with
   | none=>rfl
   | some o'=>have:=S.mem.lt hm;omega
  | succ j=>exact T.boxes j p (by simpa using hp)
 ·cases j with
  | zero =>
   cases k with
   | zero=>rfl
   | succ k =>
    simp at hp hq;subst hp
    have:=S.lt hq
    simp only at e;omega
  | succ j =>
   cases k with
   | zero =>
    simp at hp hq;subst hq
    have:=S.lt hp
    simp only at e;omega
   | succ k=>exact congrArg (·+1) (S.nodup j k p q (by simpa using hp) (by simpa using hq) e)
theorem St.reindex (S:St X w0 m0 R m w) {R':Boxes} (g:Nat→Nat) (hg:∀ j k,g j=g k→j=k) (h:∀ (j:Nat) p,R'[j]?=some p→R[g j]?=some p):St X w0 m0 R' m w :=
 ⟨S.bel,fun j p hp=>S.boxes _ p (h j p hp),fun j k p q hp hq e=>hg _ _ (S.nodup _ _ p q (h j p hp) (h k q hq) e),S.mem,S.low⟩
theorem St.drop (S:St X w0 m0 R m w) (i:Nat):St X w0 m0 (R.eraseIdx i) m w :=
 S.reindex (fun j => if j < i then j else j + 1) (fun j k h => by
     have h':(if j < i then j else j+1)=(if k < i then k else k+1):=h
     split at h'<;>split at h'<;>omega) fun j p hp=>by
  rw [List.getElem?_eraseIdx] at hp
  show R[if j < i then j else j+1]?=some p
  by_cases hh:j < i
  ·rw [if_pos hh] at hp ⊢;exact hp
  ·rw [if_neg hh] at hp ⊢;exact hp
theorem St.freeze (S:St X w0 m0 R m w) (i:Nat) {b:Nat} {o:Obj} (h:R[i]?=some (b,o)) (hX:w0.heap.size≤b):St X w0 m0 (R.eraseIdx i) (m.put b o) w∧m.Le (m.put b o):=by
 have hb:=S.boxes i (b,o) h
 have D:=S.drop i
 refine ⟨⟨S.bel,fun j p hp=>⟨(D.boxes j p hp).1,(D.boxes j p hp).2.1,?_⟩,D.nodup,fun k o' e=>?_,fun k o' e hk=>?_⟩,fun k o' e=>?_⟩
 ·unfold Mem.put
  rw [if_neg]
  ·exact (D.boxes j p hp).2.2
  ·intro e
   rw [List.getElem?_eraseIdx] at hp
   split at hp
   ·rename_i hlt;have:=S.nodup j i p (b,o) hp h e;omega
   ·rename_i hlt;have:=S.nodup (j+1) i p (b,o) hp h e;omega
 ·unfold Mem.put at e
  split at e
  ·rename_i h';subst h';rw [hb.2.1];exact e
  ·exact S.mem k o' e
 ·unfold Mem.put at e
  rw [if_neg (by omega)] at e
  exact S.low k o' e hk
 ·unfold Mem.put
  split
  ·rename_i h';subst h';rw [hb.2.2] at e;cases e
  ·exact e
theorem St.le (S:St X w0 m0 R m w):m.Le (Gw.grow m0 w0 w):=fun b o e=>by
 unfold Gw.grow
 split
 ·rename_i h;exact S.low b o e h
 ·exact S.mem b o e
theorem St.cell (S:St X w0 m0 R m w) (i:Nat) {b o:Nat} {cs:Array Value} {T:TypeId} {fz:Nat × Nat} {v:Value} (h:R[i]?=some (b, .cells cs T fz)) (hv:cs[o]?=some v) :
  w.cell? ⟨b,o,none⟩=some v:=by
 have:=(S.boxes i _ h).2.1
 simp only [World.cell?,this]
 simpa using hv
theorem setCell_heap {w:World} {b o:Nat} {cs:Array Value} {T:TypeId} {fz:Nat × Nat} (v:Value) (h:w.heap[b]?=some (.cells cs T fz)) (k:Nat) :
  (w.setCell ⟨b,o,none⟩ v).heap[k]?=if k=b then some (.cells (cs.setIfInBounds o v) T fz) else w.heap[k]?:=by
 simp only [World.setCell,Array.getElem?_modify]
 by_cases e:b=k
 ·subst e;simp [h]
 ·rw [if_neg e,if_neg (fun h=>e h.symm)]
theorem St.write (S:St X w0 m0 R m w) (i:Nat) {b:Nat} {o o':Obj} (h:R[i]?=some (b, o)) {w':World} (hw:Bel [b] w w') (hn:w'.heap[b]?=some o') :
  St X w0 m0 (R.set i (b,o')) m w':=by
 have hb:=S.boxes i _ h
 have hi:i < R.length:=by
  rcases Nat.lt_or_ge i R.length with h'|h'
  ·exact h'
  ·simp [List.getElem?_eq_none h'] at h
 have old:∀ (j:Nat) p,(R.set i (b,o'))[j]?=some p→∃ q,R[j]?=some q∧q.1=p.1∧(j≠i→p=q)∧(j=i→p=(b,o')):=fun j p hp=>by
  rw [List.getElem?_set] at hp
  by_cases e:i=j
  ·subst e
   simp [hi] at hp
   exact ⟨(b,o),h,by rw [←hp],fun h=>absurd rfl h,fun _=>hp.symm⟩
  ·rw [if_neg e] at hp
   exact ⟨p,hp,rfl,fun _=>rfl,fun h=>absurd h.symm e⟩
 refine ⟨S.bel.then hw (fun k hk=>by simp at hk;subst hk;exact hb.1),fun j p hp=>?_,fun j k p q hp hq e=>?_,fun k o2 e=>?_,S.low⟩
 ·obtain ⟨q,hq,e1,e2,e3⟩:=old j p hp
  have hq':=S.boxes j q hq
  refine ⟨by rw [←e1];exact hq'.1,?_,by rw [←e1];exact hq'.2.2⟩
  by_cases e:j=i
  ·rw [e3 e];exact hn
  ·rw [e2 e]
   rw [hw.block _ (S.lt hq) (by
    intro hx;simp at hx
    exact e (S.nodup j i q (b,o) hq h hx))]
   exact hq'.2.1
 ·obtain ⟨p',hp',e1,_⟩:=old j p hp
  obtain ⟨q',hq',e2,_⟩:=old k q hq
  exact S.nodup j k p' q' hp' hq' (by rw [e1,e2,e])
 ·have hk:=S.mem k o2 e
  rw [hw.block _ (S.mem.lt e) (by
   intro hx;simp at hx;subst hx
   rw [hb.2.2] at e;cases e)]
  exact hk
theorem St.set (S:St X w0 m0 R m w) (i:Nat) {b o:Nat} {cs:Array Value} {T:TypeId} {fz:Nat × Nat} (v:Value) (h:R[i]?=some (b, .cells cs T fz)) :
  St X w0 m0 (R.set i (b,.cells (cs.setIfInBounds o v) T fz)) m (w.setCell ⟨b,o,none⟩ v) :=
 S.write i h (Bel.setCell w v (.inr (by simp))) (by rw [setCell_heap v (S.boxes i _ h).2.1];simp)
end
end Gw
end PartBase2
section PartBase3
namespace Gw
open Go Go.RowKit
section
variable {P:Program} {ops:Array Oper} {Q:Exit→Act→World→Prop} {rest:List Oper} {n:Nat} {L:Slots} {a:Act} {w w':World}
variable {x y:Code}
end
end Gw
end PartBase3
section PartBase4
namespace Gw
open Go Go.RowKit
def isAggD:TypeDesc→Bool
 | .struct _|.array _ _=>true
 | _=>false
def tyOf (P:Program) (T:TypeId):Option (Value × Nat × Nat × Bool) :=
 match P.info? T,P.underlying T with
 | some i,some u=>match i.zero with|some z=>some (z,i.size,i.bytes,isAggD u)|none=>none
 | _,_=>none
section
variable {P:Program} {T:TypeId} {z:Value} {s by_:Nat} {g:Bool} {w:World}
theorem tyOf_parts (h:tyOf P T=some (z,s,by_,g)):∃ i u,P.info? T=some i∧P.underlying T=some u∧i.zero=some z∧i.size=s∧i.bytes=by_∧isAggD u=g:=by
 unfold tyOf at h
 cases hi:P.info? T with
 | none=>rw [hi] at h;cases h
 | some i =>
  cases hu:P.underlying T with
  | none=>rw [hi,hu] at h;cases h
  | some u =>
   rw [hi,hu] at h
   cases hz:i.zero with
   | none=>simp [hz] at h
   | some z' =>
    simp only [hz,Option.some.injEq,Prod.mk.injEq] at h
    obtain ⟨rfl,rfl,rfl,rfl⟩:=h
    exact ⟨i,u,rfl,rfl,hz,rfl,rfl,rfl⟩
theorem run_sizeOf (h:tyOf P T=some (z,s,by_,g)):(Go.sizeOf T).run P w=.ok s w:=by
 obtain ⟨i,u,hi,hu,hz,rfl,rfl,hg⟩:=tyOf_parts h
 simp [Go.sizeOf,typeInfo,hi]
theorem run_zero (h:tyOf P T=some (z,s,by_,g)):(zeroValue T).run P w=.ok z w:=by
 obtain ⟨i,u,hi,hu,hz,rfl,rfl,hg⟩:=tyOf_parts h
 simp [zeroValue,typeInfo,hi,hz]
theorem run_isAgg (h:tyOf P T=some (z,s,by_,g)):(isAgg T).run P w=.ok g w:=by
 obtain ⟨i,u,hi,hu,hz,rfl,rfl,hg⟩:=tyOf_parts h
 subst hg
 cases u<;>simp [isAgg,run_underlying hu,isAggD]
theorem add_none (b o n:Nat):Addr.add ⟨b,o,none⟩ n=⟨b,o+n,none⟩:=by
 unfold Addr.add
 split
 ·rename_i h;subst h;rfl
 ·rfl
theorem ld1 (h:tyOf P T=some (z,s,by_,false)) {p:Addr} {v:Value} (hc:w.cell? p=some v):(loadVar T p).run P w=.ok v w:=by
 simp [loadVar,run_isAgg h,run_load,hc]
theorem ldk (h:tyOf P T=some (z,s,by_,true)) {p:Addr} {cs:List Value} (hs:cs.length=s) (hc:∀ j v,cs[j]?=some v→w.cell? (p.add j)=some v):(loadVar T p).run P w=.ok (.agg cs.toArray) w:=by
 subst hs
 have:=run_loadCells_list (P:=P) (w:=w) p cs hc
 simp [loadVar,run_isAgg h,run_sizeOf h,this]
def putL (cs:Array Value) (o:Nat):List Value→Array Value
 | []=>cs
 | v::r=>putL (cs.setIfInBounds o v) (o+1) r
theorem size_putL (cs:Array Value) (o:Nat) (vs:List Value):(putL cs o vs).size=cs.size:=by
 induction vs generalizing cs o with
 | nil=>rfl
 | cons v r ih=>unfold putL;rw [ih];simp
theorem get_putL (cs:Array Value) (o:Nat) (vs:List Value) (h:o+vs.length≤cs.size) (k:Nat) :
  (putL cs o vs)[k]?=if k < o then cs[k]? else if k < o+vs.length then vs[k-o]? else cs[k]?:=by
 induction vs generalizing cs o with
 | nil=>unfold putL;simp only [List.length_nil,Nat.add_zero];split<;>rfl
 | cons v r ih =>
  unfold putL
  simp only [List.length_cons] at h ⊢
  rw [ih _ _ (by simp;omega)]
  by_cases h1:k < o
  ·rw [if_pos (by omega),if_pos h1,Array.getElem?_setIfInBounds_ne (by omega)]
  ·by_cases h2:k=o
   ·subst h2
    rw [if_pos (by omega),if_neg h1,if_pos (by omega),Array.getElem?_setIfInBounds_self_of_lt (by omega)]
    simp
   ·rw [if_neg (by omega),if_neg h1]
    by_cases h3:k < o+1+r.length
    ·rw [if_pos h3,if_pos (by omega)]
     have:k-o=(k-(o+1))+1:=by omega
     rw [this];simp
    ·rw [if_neg h3,if_neg (by omega),Array.getElem?_setIfInBounds_ne (by omega)]
def noFz (n:Nat) (fz:Nat × Nat):Prop:=∀ i,i < n→¬ (fz.1≤i∧i < fz.2)
theorem noFz0 (n:Nat):noFz n (0,0):=fun i _ h=>absurd h.2 (Nat.not_lt_zero i)
theorem run_storeCells {b:Nat} {T':TypeId} {fz:Nat × Nat}:∀ (vs:List Value) (w:World) (o i:Nat) (cs:Array Value), w.heap[b]?=some (.cells cs T' fz)→noFz cs.size fz→o+i+vs.length≤cs.size→(∀ v∈vs, v.oneCell'=true) →
  ∃ w',(storeCells ⟨b,o,none⟩ vs i).run P w=.ok () w'∧Bel [b] w w'∧w'.heap[b]?=some (.cells (putL cs (o+i) vs) T' fz)
 | [],w,o,i,cs,hb,_,_,_=>⟨w,by simp [storeCells],Bel.refl _ _,by simpa [putL] using hb⟩
 | v::r,w,o,i,cs,hb,hz,hl,h1=>by
  simp only [List.length_cons] at hl
  have hc:w.cell? ⟨b,o+i,none⟩=some (cs[o+i]'(by omega)):=by
   simp only [World.cell?,hb]
   simp [Array.getElem?_eq_getElem (show o+i < cs.size by omega)]
  have hf:w.frozen? ⟨b,o+i,none⟩=false:=by
   simp only [World.frozen?,hb]
   have:=hz (o+i) (by omega)
   simpa using this
  have hst:(store ⟨b,o+i,none⟩ v).run P w=.ok () (w.setCell ⟨b,o+i,none⟩ v):=by
   rw [run_store P w _ v _ (h1 v (by simp)),hc]
   simp [hf]
  have hh:=setCell_heap v hb (o:=o+i) b
  rw [if_pos rfl] at hh
  obtain ⟨w',hr,hbel,hw'⟩:=run_storeCells r (w.setCell ⟨b,o+i,none⟩ v) o (i+1) _ hh (by simpa using hz) (by simp;omega) (fun u hu=>h1 u (by simp [hu]))
  refine ⟨w',?_,?_,?_⟩
  ·unfold storeCells
   simp only [Sem.run_bind,add_none,hst,Result.andThen_ok,hr]
  ·exact (Bel.setCell w v (.inr (by simp))).trans hbel
  ·rw [hw',←Nat.add_assoc,putL]
end
section
variable {P:Program} {ops:Array Oper} {Q:Exit→Act→World→Prop} {rest:List Oper} {n:Nat} {L:Slots} {a:Act} {w w0:World} {X:List Nat} {R:Boxes} {m m0:Mem}
variable {T:Nat} {dd:Option Tmp} {d:Nat} {x y:Operand} {typ:TypeId} {pos:String} {af:Array Edge} {gd:Option (Nat × Bool)} {z:Value} {s by_:Nat} {g:Bool}
end
end Gw
end PartBase4
section PartBase5
namespace Gw
open Go Go.RowKit
section
variable {P:Program} {T:TypeId} {w:World}
theorem wrap_i64 {n:Int} (h : -9223372036854775808≤n∧n≤9223372036854775807):IntKind.i64.wrap n=n:=IntWalk.i64_in n h
theorem b_add {i j:Int} (h : -9223372036854775808≤i+j∧i+j≤9223372036854775807) (w:World):(binOp .add T (.int .i64 i) (.int .i64 j)).run P w=.ok (.int .i64 (i+j)) w:=by
 simp only [binOp,Op.intArith,wrap_i64 h];rfl
theorem b_sub {i j:Int} (h : -9223372036854775808≤i-j∧i-j≤9223372036854775807) (w:World):(binOp .sub T (.int .i64 i) (.int .i64 j)).run P w=.ok (.int .i64 (i-j)) w:=by
 simp only [binOp,Op.intArith,wrap_i64 h];rfl
theorem b_mul {i j:Int} (h : -9223372036854775808≤i*j∧i*j≤9223372036854775807) (w:World):(binOp .mul T (.int .i64 i) (.int .i64 j)).run P w=.ok (.int .i64 (i*j)) w:=by
 simp only [binOp,Op.intArith,wrap_i64 h];rfl
theorem b_quo {i j:Int} (hi:0≤i) (hi2:i≤9223372036854775807) (h:1≤j) (w:World):(binOp .quo T (.int .i64 i) (.int .i64 j)).run P w=.ok (.int .i64 (i / j)) w:=by
 have e:i.tdiv j=i / j:=Int.tdiv_eq_ediv_of_nonneg hi
 have h2:i / j≤i:=Int.ediv_le_self _ hi
 have h3:0≤i / j:=Int.ediv_nonneg hi (by omega)
 simp only [binOp,Op.intDiv,if_neg (show ¬ j=0 by omega),e,wrap_i64 (n:=i / j) ⟨by omega,by omega⟩];rfl
theorem b_rem {i j:Int} (h:j≠0) (w:World):(binOp .rem T (.int .i64 i) (.int .i64 j)).run P w=.ok (.int .i64 (i.tmod j)) w:=by
 simp only [binOp,Op.intDiv,if_neg h];rfl
theorem b_lss {k:IntKind} {i j:Int} (w:World):(binOp .lss T (.int k i) (.int k j)).run P w=.ok (.bool (decide (i < j))) w:=by simp [binOp,Op.intCmp]
theorem b_leq {k:IntKind} {i j:Int} (w:World):(binOp .leq T (.int k i) (.int k j)).run P w=.ok (.bool (decide (i≤j))) w:=by simp [binOp,Op.intCmp]
theorem b_gtr {k:IntKind} {i j:Int} (w:World):(binOp .gtr T (.int k i) (.int k j)).run P w=.ok (.bool (decide (j < i))) w:=by simp [binOp,Op.intCmp]
theorem b_geq {k:IntKind} {i j:Int} (w:World):(binOp .geq T (.int k i) (.int k j)).run P w=.ok (.bool (decide (j≤i))) w:=by simp [binOp,Op.intCmp]
theorem b_eql {k:IntKind} {i j:Int} (w:World):(binOp .eql T (.int k i) (.int k j)).run P w=.ok (.bool (decide (i=j))) w:=by
 simp [binOp,Op.intCmp];rfl
theorem b_neq {k:IntKind} {i j:Int} (w:World):(binOp .neq T (.int k i) (.int k j)).run P w=.ok (.bool (!decide (i=j))) w:=by
 simp [binOp,Op.intCmp];rfl
theorem run_equalIn_bool {i j:Bool} (hT:P.underlying T=some .bool) (d:Nat) (w:World):(Op.equalIn (d+1) T (.bool i) (.bool j)).run P w=.ok (i == j) w:=by
 simp [Op.equalIn,run_underlying hT]
theorem bb_eql {i j:Bool} (hT:P.underlying T=some .bool) (w:World):(binOp .eql T (.bool i) (.bool j)).run P w=.ok (.bool (i == j)) w:=by
 simp only [binOp,Op.equal,Sem.run_bind,show Op.maxDepth=9999+1 from rfl,run_equalIn_bool hT,Result.andThen_ok,Sem.run_pure]
theorem bb_neq {i j:Bool} (hT:P.underlying T=some .bool) (w:World):(binOp .neq T (.bool i) (.bool j)).run P w=.ok (.bool (!(i == j))) w:=by
 simp only [binOp,Op.equal,Sem.run_bind,show Op.maxDepth=9999+1 from rfl,run_equalIn_bool hT,Result.andThen_ok,Sem.run_pure]
end
def str (l:List UInt8):Value:=.string ⟨l.toArray⟩
theorem str_toList (l:List UInt8):(⟨l.toArray⟩:ByteArray).toList=l:=by
 simp [ByteArray.toList_eq]
theorem str_size (l:List UInt8):(⟨l.toArray⟩:ByteArray).size=l.length:=by
 simp [ByteArray.size]
section
variable {P:Program} {T:TypeId}
theorem bs_eql {i j:List UInt8} (w:World):(binOp .eql T (str i) (str j)).run P w=.ok (.bool (decide (i=j))) w:=by
 simp only [binOp,str,Op.stringOp,str_toList,show (i == j)=decide (i=j) by rw [Bool.eq_iff_iff];simp];rfl
theorem bs_neq {i j:List UInt8} (w:World):(binOp .neq T (str i) (str j)).run P w=.ok (.bool (!decide (i=j))) w:=by
 simp only [binOp,str,Op.stringOp,str_toList,show (i == j)=decide (i=j) by rw [Bool.eq_iff_iff];simp];rfl
theorem bs_lss {i j:List UInt8} (w:World):(binOp .lss T (str i) (str j)).run P w=.ok (.bool (Op.bytesLess i j)) w:=by
 simp only [binOp,str,Op.stringOp,str_toList];rfl
theorem bs_add {i j:List UInt8} (h:i.length+j.length≤9223372036854775807) (w:World):(binOp .add T (str i) (str j)).run P w=.ok (str (i++j)) w:=by
 simp only [binOp,str,Op.stringOp,str_size]
 rw [if_neg (by show ¬ ((i.length+j.length:Nat):Int) > 9223372036854775807;omega)]
 simp only [Sem.run_pure,Result.ok.injEq,Value.string.injEq,and_true]
 simp [ByteArray.ext_iff]
end
section
variable {P:Program} {ops:Array Oper} {Q:Exit→Act→World→Prop} {rest:List Oper} {n:Nat} {L:Slots} {a:Act} {w w0:World} {X:List Nat} {R:Boxes} {m m0:Mem}
variable {d T T2:Nat} {dd:Option Tmp} {x y c:Operand} {typ:TypeId} {pos:String} {af:Array Edge} {gd:Option (Nat × Bool)} {z:Value} {s by_:Nat} {g:Bool}
def callable (P : Program) (f : FuncId) : Bool := match P.funcs[f]? with | some fn => !fn.body.isNone && !(fn.name == "runtime.NumGoroutine") | none => false
theorem run_callFunc {f:FuncId} (hf:callable P f=true) (vs:Array Value) (w:World):(callFunc f vs).run P w=.ok (.enter f vs) w:=by
 unfold callable at hf
 cases h:P.funcs[f]? with
 | none=>rw [h] at hf;cases hf
 | some fn =>
  rw [h] at hf
  simp only [Bool.and_eq_true,Bool.not_eq_true'] at hf
  simp only [callFunc,Sem.run_bind,run_program,Result.andThen_ok,h,hf.2,hf.1,Bool.false_eq_true,if_false,Sem.run_pure]
end
end Gw
end PartBase5
section PartBase6
namespace Gw
open Go Go.RowKit
class Upr {α:Type} (Rel:Mem→List Value→α→Prop):Prop where
 up:∀ {m m':Mem} {cs:List Value} {x : α},m.Le m'→Rel m cs x→Rel m' cs x
def Enc {α:Type} (e : α→List Value):Mem→List Value→α→Prop:=fun _ cs x=>cs=e x
instance {α:Type} (e : α→List Value):Upr (Enc e):=⟨fun _ h=>h⟩
structure SlA {α:Type} (k e:Nat) (Rel:Mem→List Value→α→Prop) (m:Mem) (oa:Option Addr) (cap:Nat) (xs:List α):Prop where
 le:xs.length≤cap
 capb:cap≤9223372036854775807
 row:xs=[]∨∃ b off arr T fz,oa=some ⟨b,off,none⟩∧m b=some (.cells arr T fz) ∧
  ∀ i (h:i < xs.length),∃ cs:List Value,cs.length=k∧(∀ j,j < k→arr[off+i*k+j]?=cs[j]?)∧Rel m cs xs[i]
section
variable {α:Type} {k e:Nat} {Rel:Mem→List Value→α→Prop} {m m':Mem} {oa:Option Addr} {cap:Nat} {xs:List α}
theorem SlA.up [Upr Rel] (F:SlA k e Rel m oa cap xs) (h:m.Le m'):SlA k e Rel m' oa cap xs :=
 ⟨F.le,F.capb,F.row.imp id fun ⟨b,off,arr,T,fz,h1,h2,h3⟩=>⟨b,off,arr,T,fz,h1,h _ _ h2,fun i hi=>let ⟨cs,h4,h5,h6⟩:=h3 i hi;⟨cs,h4,h5,Upr.up h h6⟩⟩⟩
theorem SlA.none:SlA k e Rel m oa 0 ([]:List α):=⟨by simp,by simp,.inl rfl⟩
theorem SlA.nil (h:cap≤9223372036854775807):SlA k e Rel m oa cap ([]:List α):=⟨by simp,h,.inl rfl⟩
theorem SlA.at (F:SlA k e Rel m oa cap xs) {w:World} (hm:Sub m w) {i:Nat} (hi:i < xs.length):∃ b off, oa=some ⟨b, off, Option.none⟩∧∃ cs:List Value, cs.length=k∧Rel m cs xs[i] ∧
  ∀ j v,cs[j]?=some v→w.cell? ⟨b,off+i*k+j,Option.none⟩=some v:=by
 rcases F.row with h|⟨b,off,arr,T,fz,h1,h2,h3⟩
 ·subst h;simp at hi
 ·obtain ⟨cs,h4,h5,h6⟩:=h3 i hi
  refine ⟨b,off,h1,cs,h4,h6,fun j v hv=>?_⟩
  have hj:j < k:=by
   rcases Nat.lt_or_ge j k with h|h
   ·exact h
   ·rw [List.getElem?_eq_none (by omega)] at hv;cases hv
  simp only [World.cell?,hm _ _ h2]
  simp [h5 j hj,hv]
theorem SlA.drop (F:SlA k e Rel m oa cap xs) (l:Nat) (hl:l≤xs.length):SlA k e Rel m (if cap=l then oa else oa.map (·.add (l*k))) (cap-l) (xs.drop l):=by
 refine ⟨by have:=F.le;simp;omega,by have:=F.capb;omega,?_⟩
 rcases F.row with h|⟨b,off,arr,T,fz,h1,h2,h3⟩
 ·subst h;left;simp
 ·by_cases hx:xs.length=l
  ·left;simp [hx]
  ·right
   have hc:cap≠l:=by have:=F.le;omega
   refine ⟨b,off+l*k,arr,T,fz,by rw [if_neg hc,h1];simp [add_none],h2,fun i hi=>?_⟩
   simp at hi
   obtain ⟨cs,h4,h5,h6⟩:=h3 (l+i) (by omega)
   refine ⟨cs,h4,fun j hj=>?_,by simpa using h6⟩
   rw [←h5 j hj]
   congr 1
   rw [Nat.add_mul];omega
theorem SlA.take (F:SlA k e Rel m oa cap xs) (h:Nat):SlA k e Rel m oa cap (xs.take h):=by
 refine ⟨by have:=F.le;simp;omega,F.capb,?_⟩
 rcases F.row with h'|⟨b,off,arr,T,fz,h1,h2,h3⟩
 ·subst h';left;simp
 ·right
  refine ⟨b,off,arr,T,fz,h1,h2,fun i hi=>?_⟩
  simp at hi
  obtain ⟨cs,h4,h5,h6⟩:=h3 i (by omega)
  exact ⟨cs,h4,h5,by simpa using h6⟩
theorem SlA.mono {β:Type} {Rel':Mem→List Value→β→Prop} {ys:List β} (F:SlA k e Rel m oa cap xs) (hl:ys.length=xs.length) (h:∀ i (hi:i < xs.length) (hi':i < ys.length) cs,Rel m cs xs[i]→Rel' m cs ys[i]):SlA k e Rel' m oa cap ys :=
 ⟨by rw [hl];exact F.le,F.capb,F.row.imp (fun h=>by subst h;exact List.length_eq_zero_iff.1 (by simpa using hl)) fun ⟨b,off,arr,T,fz,h1,h2,h3⟩ =>
  ⟨b,off,arr,T,fz,h1,h2,fun i hi=>let ⟨cs,h4,h5,h6⟩:=h3 i (hl ▸ hi);⟨cs,h4,h5,h _ _ _ _ h6⟩⟩⟩
end
def eByte (x:UInt8):List Value:=[.int .u8 x.toNat]
def I64 (n:Int):Prop:=-9223372036854775808≤n∧n≤9223372036854775807
abbrev Bys (m:Mem) (oa:Option Addr) (cap:Nat) (xs:List UInt8):Prop:=SlA 1 1 (Enc eByte) m oa cap xs
def RStr (m:Mem) (cs:List Value) (x:List UInt8):Prop:=cs=[str x]∧x.length≤9223372036854775807
instance:Upr RStr:=⟨fun _ h=>h⟩
def RInt (m:Mem) (cs:List Value) (x:Int):Prop:=cs=[.int .i64 x]∧I64 x
instance:Upr RInt:=⟨fun _ h=>h⟩
def RBys (m:Mem) (cs:List Value) (x:List UInt8):Prop:=∃ oa cap,cs=[.slice oa x.length cap]∧Bys m oa cap x
instance:Upr RBys:=⟨fun h ⟨oa,cap,h1,h2⟩=>⟨oa,cap,h1,h2.up h⟩⟩
section
variable {α:Type} {k e:Nat} {Rel:Mem→List Value→α→Prop}
variable {P:Program} {ops:Array Oper} {Q:Exit→Act→World→Prop} {rest:List Oper} {n:Nat} {L:Slots} {a:Act} {w w0:World} {X:List Nat} {R:Boxes} {m m0:Mem}
variable {d T E:Nat} {dd:Option Tmp} {x y c:Operand} {typ:TypeId} {pos:String} {af:Array Edge} {gd:Option (Nat × Bool)} {z:Value} {s by_:Nat} {g:Bool}
variable {oa:Option Addr} {cap:Nat} {xs:List α}
theorem run_equalIn_nil {ln:Nat} (hT:P.underlying T=some (.slice E)) (d:Nat) (w:World):(Op.equalIn (d+1) T (.slice oa ln cap) (.slice none 0 0)).run P w=.ok oa.isNone w:=by
 cases oa<;>simp [Op.equalIn,run_underlying hT]
end
end Gw
end PartBase6
section PartBase7
namespace Gw
open Go Go.RowKit
theorem zeroCells_size (z:Array Value) (n:Nat):(Builtin.zeroCells z n).size=n*z.size:=by simp [Builtin.zeroCells]
def notInt:TypeDesc→Bool
 | .int _=>false
 | _=>true
section
variable {P:Program} {w w0:World} {X:List Nat} {Ro R:Boxes} {m m0:Mem} {T U E k e n n2:Nat} {z v xv:Value} {g:Bool} {cells new:List Value}
end
end Gw
end PartBase7
section PartBase8
namespace Gw
open Go Go.RowKit
section
variable {α:Type} {k e:Nat} {Rel:Mem→List Value→α→Prop}
variable {P:Program} {ops:Array Oper} {Q:Exit→Act→World→Prop} {rest:List Oper} {n:Nat} {L:Slots} {a:Act} {w w0:World} {X:List Nat} {R Ro:Boxes} {m m0:Mem}
variable {d d2 T U E n1 n2:Nat} {dd:Option Tmp} {x y c:Operand} {typ typ2:TypeId} {pos pos2:String} {af af2:Array Edge} {gd:Option (Nat × Bool)} {z v xv:Value} {s by_:Nat} {g:Bool}
variable {oa:Option Addr} {cap:Nat} {xs:List α} {cells new:List Value} {us:TypeDesc}
theorem SlA.src (F:SlA k e Rel m oa cap xs) (hm:Sub m w):∃ new:List Value, new.length=xs.length*k∧(∀ w', w'.heap=w.heap→(Builtin.firstCells k xs.length (.slice oa xs.length cap)).run P w'=.ok new.toArray w') ∧
  ∀ i (h:i < xs.length),Rel m ((new.drop (i*k)).take k) xs[i]:=by
 rcases F.row with h|⟨b,off,arr,T,fz,h1,h2,h3⟩
 ·subst h
  refine ⟨[],by simp,fun w' _=>?_,fun i h=>by simp at h⟩
  cases oa with
  | none=>simp [Builtin.firstCells]
  | some p=>simp [Builtin.firstCells,loadCells,loadCellsFrom]
 ·subst h1
  have hcell:∀ i,i < xs.length*k→∃ v,arr[off+i]?=some v:=fun i hi=>by
   have hk:0 < k:=Nat.pos_of_ne_zero fun e=>by subst e;simp at hi
   have hq:i / k < xs.length:=Nat.div_lt_of_lt_mul (by rw [Nat.mul_comm];exact hi)
   obtain ⟨cs,h4,h5,h6⟩:=h3 (i / k) hq
   have hr:i % k < k:=Nat.mod_lt _ hk
   have:=h5 (i % k) hr
   have e1:off+i / k*k+i % k=off+i:=by
    have:=Nat.div_add_mod i k
    rw [Nat.mul_comm] at this
    omega
   rw [e1] at this
   exact ⟨cs[i % k]'(by omega),by rw [this,List.getElem?_eq_getElem (by omega)]⟩
  have hlen:((arr.toList.drop off).take (xs.length*k)).length=xs.length*k:=by
   rcases Nat.eq_zero_or_pos (xs.length*k) with h0|h0
   ·rw [h0];rfl
   ·obtain ⟨v,hv⟩:=hcell (xs.length*k-1) (by omega)
    have:=(Array.getElem?_eq_some_iff.1 hv).1
    simp only [List.length_take,List.length_drop,Array.length_toList]
    omega
  have hget:∀ j,j < xs.length*k→((arr.toList.drop off).take (xs.length*k))[j]?=arr[off+j]?:=fun j hj=>by
   rw [List.getElem?_take,if_pos hj,List.getElem?_drop,Array.getElem?_toList]
  refine ⟨(arr.toList.drop off).take (xs.length*k),hlen,fun w' hw'=>?_,fun i hi=>?_⟩
  ·have := run_loadCells_list (P := P) (w := w') ⟨b, off, Option.none⟩ ((arr.toList.drop off).take (xs.length*k)) fun j v hv => by
    have hj:j < xs.length*k:=by
     rcases Nat.lt_or_ge j (xs.length*k) with h|h
     ·exact h
     ·rw [List.getElem?_eq_none (by rw [hlen];exact h)] at hv;cases hv
    rw [add_none]
    simp only [World.cell?,hw',hm _ _ h2]
    rw [hget j hj] at hv
    simpa using hv
   rw [hlen] at this
   simpa only [Builtin.firstCells] using this
  ·obtain ⟨cs,h4,h5,h6⟩:=h3 i hi
   have:(((arr.toList.drop off).take (xs.length*k)).drop (i*k)).take k=cs:=by
    apply List.ext_getElem?
    intro j
    rw [List.getElem?_take]
    by_cases hj:j < k
    ·rw [if_pos hj, List.getElem?_drop, hget _ (by
      have:(i+1)*k≤xs.length*k:=Nat.mul_le_mul_right _ hi
      rw [Nat.add_mul] at this;omega),←h5 j hj]
     congr 1;omega
    ·rw [if_neg hj,List.getElem?_eq_none (by omega)]
   rw [this];exact h6
theorem St.src (S:St X w0 m0 R m w) (i:Nat) {b cap':Nat} {cs:List Value} {fz:Nat × Nat} {E':TypeId} {n2:Nat} (h:R[i]?=some (b, .cells cs.toArray E' fz)) (hl:cs.length=n2*k) :
  ∀ w',w'.heap=w.heap→(Builtin.firstCells k n2 (.slice (some ⟨b,0,none⟩) n2 cap')).run P w'=.ok cs.toArray w':=fun w' hw'=>by
 have hb:=(S.boxes i _ h).2.1
 have:=run_loadCells_list (P:=P) (w:=w') ⟨b,0,none⟩ cs fun j v hv=>by
  rw [add_none]
  simp only [World.cell?,hw',hb]
  simpa using hv
 rw [hl] at this
 simpa only [Builtin.firstCells] using this
theorem src_str (l:List UInt8) (w':World):(Builtin.firstCells 1 l.length (str l)).run P w'=.ok (l.map fun b=>Value.int .u8 b.toNat).toArray w':=by
 simp [Builtin.firstCells,str,ByteArray.extract,ByteArray.copySlice]
theorem St.swap {R1 R2:Boxes} (S:St X w0 m0 (R1++(R2++R)) m w):St X w0 m0 (R2++(R1++R)) m w:=by
 refine S.reindex (fun j=>if j < R2.length then j+R1.length else if j < R2.length+R1.length then j-R2.length else j) (fun j k hjk=>?_) fun j q hq=>?_
 ·have h':(if j < R2.length then j+R1.length else if j < R2.length+R1.length then j-R2.length else j)=(if k < R2.length then k+R1.length else if k < R2.length+R1.length then k-R2.length else k):=hjk
  split at h'<;>split at h'<;>(try split at h')<;>(try split at h')<;>omega
 ·show (R1++(R2++R))[if j < R2.length then j+R1.length else if j < R2.length+R1.length then j-R2.length else j]?=some q
  by_cases h1:j < R2.length
  ·rw [List.getElem?_append_left h1] at hq
   rw [if_pos h1,List.getElem?_append_right (by omega),Nat.add_sub_cancel,List.getElem?_append_left h1];exact hq
  ·rw [List.getElem?_append_right (by omega)] at hq
   rw [if_neg h1]
   by_cases h2:j < R2.length+R1.length
   ·rw [List.getElem?_append_left (by omega)] at hq
    rw [if_pos h2,List.getElem?_append_left (by omega)];exact hq
   ·rw [List.getElem?_append_right (by omega)] at hq
    rw [if_neg h2,List.getElem?_append_right (by omega),List.getElem?_append_right (by omega),←hq]
    congr 1;omega
theorem foldl_push (l:List UInt8):∀ r:ByteArray,(l.map fun x=>(x.toNat:Int)).foldl (fun r n=>r.push (UInt8.ofNat n.toNat)) r=⟨r.data++l.toArray⟩:=by
 induction l with
 | nil=>intro r;simp
 | cons c l ih=>intro r;rw [List.map_cons,List.foldl_cons,ih];simp [ByteArray.push]
theorem run_b2s {l:List UInt8} (F:Bys m oa cap l) (hm:Sub m w):(Conv.bytesToString (.slice oa l.length cap)).run P w=.ok (str l) w:=by
 obtain ⟨new,hl,hnew,hrel⟩:=F.src (P:=P) hm
 have h2:new=(l.map fun x=>(x.toNat:Int)).map (Value.int .u8):=by
  apply List.ext_getElem
  ·simp [hl]
  ·intro i h1 h2
   have hi:i < l.length:=by simpa [hl] using h1
   have:=hrel i hi
   simp only [Enc,eByte,Nat.mul_one] at this
   have h3:=congrArg (fun q:List Value=>q[0]?) this
   simp [List.getElem?_drop] at h3
   rw [List.getElem?_eq_getElem h1] at h3
   simpa using Option.some.inj h3
 cases oa with
 | none =>
  have:l=[]:=by
   rcases F.row with h|⟨b,off,arr,T,fz,h1,_⟩
   ·exact h
   ·cases h1
  subst this
  rfl
 | some p =>
  have hc:=hnew w rfl
  simp only [Builtin.firstCells,Nat.mul_one] at hc
  rw [h2] at hc
  rw [run_bytesToString w p l.length cap _ hc,foldl_push]
  simp [str]
end
end Gw
end PartBase8
section PartV1
namespace Gv
open Go Go.RowKit Gw
abbrev MAXL:Nat:=9223372036854775807
inductive V:Type 1 where
 | int (k:IntKind) (n:Int)
 | bool (b:Bool)
 | lit (b:Bool)
 | str (s:List UInt8)
 | sl {α:Type} (enc : α→V) (l:List α)
 | nil
 | own (r:Nat)
 | ptr (r i o:Nat)
 | elt (x:V) (o:Nat)
 | agg (cs:List V)
 | tup (vs:List V)
 | fn (f:FuncId) (caps:List V)
 | map (r:Nat)
 | raw (v:Value)
def V.cells:V→List V
 | .agg cs=>cs
 | v=>[v]
abbrev Loc:=Nat→Option (Option Nat × Nat × Nat × Nat)
def noLoc:Loc:=fun _=>none
def Loc.Le (q q':Loc):Prop:=∀ r x,q r=some x→q' r=some x
theorem Loc.Le.refl (q:Loc):q.Le q:=fun _ _ h=>h
theorem Loc.Le.trans {a b c:Loc} (h:a.Le b) (k:b.Le c):a.Le c:=fun r x e=>k r x (h r x e)
theorem noLoc_le (q:Loc):noLoc.Le q:=fun r x h=>by cases h
abbrev row0 (ob:Option Nat):Option Addr:=ob.map fun b=>⟨b,0,none⟩
inductive VR (m:Mem):Loc→V→Value→Prop
 | int {q:Loc} {k:IntKind} {n:Int}:VR m q (.int k n) (.int k n)
 | bool {q:Loc} {b:Bool}:VR m q (.bool b) (.bool b)
 | lit {q:Loc} {b:Bool}:VR m q (.lit b) (.bool b)
 | str {q:Loc} {s:List UInt8} (h:s.length≤MAXL):VR m q (.str s) (Gw.str s)
 | sl0 {q:Loc} {α:Type} {enc : α→V} {oa:Option Addr} {cap:Nat} (h:cap≤MAXL) (h0:oa=none→cap=0):VR m q (.sl enc []) (.slice oa 0 cap)
 | sl {q : Loc} {α : Type} {enc : α → V} {l : List α} {b off : Nat} {arr : Array Value} {T : TypeId} {fz : Nat × Nat} {cap k : Nat} (us : Nat → Nat → Value)
     (h1:l.length≤cap) (h2:cap≤MAXL) (h3:m b=some (.cells arr T fz))
     (h4:∀ i (h:i < l.length),(enc l[i]).cells.length=k)
     (h5:∀ i (h:i < l.length) (j:Nat) v,(enc l[i]).cells[j]?=some v→arr[off+i*k+j]?=some (us i j)∧(us i j).oneCell'=true)
     (h6:∀ i (h:i < l.length) (j:Nat) v,(enc l[i]).cells[j]?=some v→VR m noLoc v (us i j)):VR m q (.sl enc l) (.slice (some ⟨b,off,none⟩) l.length cap)
 | nil {q:Loc}:VR m q .nil (.slice none 0 0)
 | own {q:Loc} {r len cap k:Nat} {ob:Option Nat} (h:q r=some (ob,len,cap,k)):VR m q (.own r) (.slice (row0 ob) len cap)
 | ptr {q:Loc} {r i o b len cap k:Nat} (h:q r=some (some b,len,cap,k)):VR m q (.ptr r i o) (.pointer (some ⟨b,i*k+o,none⟩))
 | elt {q : Loc} {x : V} {o b off : Nat} {arr : Array Value} {T : TypeId} {fz : Nat × Nat} (us : Nat → Value) (h3 : m b = some (.cells arr T fz))
     (h5:∀ (j:Nat) v,x.cells[j]?=some v→arr[off+j]?=some (us j)∧(us j).oneCell'=true) (h6:∀ (j:Nat) v,x.cells[j]?=some v→VR m noLoc v (us j)):VR m q (.elt x o) (.pointer (some ⟨b,off+o,none⟩))
 | agg {q:Loc} {cs:List V} {us:List Value} (hl:cs.length=us.length) (h:∀ (i:Nat) v u,cs[i]?=some v→us[i]?=some u→VR m q v u):VR m q (.agg cs) (.agg us.toArray)
 | tup {q:Loc} {cs:List V} {us:List Value} (hl:cs.length=us.length) (h:∀ (i:Nat) v u,cs[i]?=some v→us[i]?=some u→VR m q v u):VR m q (.tup cs) (.tuple us.toArray)
 | fn {q:Loc} {f:FuncId} {cs:List V} {us:List Value} (hl:cs.length=us.length) (h:∀ (i:Nat) v u,cs[i]?=some v→us[i]?=some u→VR m q v u):VR m q (.fn f cs) (.func (.func f) #[] us.toArray)
 | map {q:Loc} {r b len cap k:Nat} (h:q r=some (some b,len,cap,k)):VR m q (.map r) (.map (some b))
 | raw {q:Loc} {v:Value}:VR m q (.raw v) v
theorem VR.up {m m':Mem} {q:Loc} {v:V} {u:Value} (h:VR m q v u) (hm:m.Le m'):∀ {q':Loc},q.Le q'→VR m' q' v u:=by
 induction h with
 | int=>intro q' _;exact .int
 | bool=>intro q' _;exact .bool
 | lit=>intro q' _;exact .lit
 | str h=>intro q' _;exact .str h
 | sl0 h h0=>intro q' _;exact .sl0 h h0
 | sl us h1 h2 h3 h4 h5 h6 ih=>intro q' _;exact .sl us h1 h2 (hm _ _ h3) h4 h5 fun i h j v e=>ih i h j v e (Loc.Le.refl _)
 | nil=>intro q' _;exact .nil
 | own h=>intro q' hq;exact .own (hq _ _ h)
 | ptr h=>intro q' hq;exact .ptr (hq _ _ h)
 | elt us h3 h5 h6 ih=>intro q' _;exact .elt us (hm _ _ h3) h5 fun j v e=>ih j v e (Loc.Le.refl _)
 | agg hl h ih=>intro q' hq;exact .agg hl fun i v u e e'=>ih i v u e e' hq
 | tup hl h ih=>intro q' hq;exact .tup hl fun i v u e e'=>ih i v u e e' hq
 | fn hl h ih=>intro q' hq;exact .fn hl fun i v u e e'=>ih i v u e e' hq
 | map h=>intro q' hq;exact .map (hq _ _ h)
 | raw=>intro q' _;exact .raw
def V.flat:V→Bool
 | .agg _|.tup _=>false
 | .raw v=>v.oneCell'
 | _=>true
theorem VR.one {m:Mem} {q:Loc} {v:V} {u:Value} (h:VR m q v u) (hf:v.flat=true):u.oneCell'=true:=by
 cases h<;>first|rfl|(simp [V.flat] at hf;try exact hf)|skip
def V.pure:V→Bool
 | .int ..|.bool _|.lit _|.str _|.sl ..|.nil|.raw _=>true
 | _=>false
theorem VR.free {m:Mem} {q:Loc} {v:V} {u:Value} (h:VR m q v u) (hf:v.pure=true):VR m noLoc v u:=by
 cases h<;>first|(simp [V.pure] at hf;done)|skip
 case int=>exact .int
 case bool=>exact .bool
 case lit=>exact .lit
 case str h=>exact .str h
 case sl0 h h0=>exact .sl0 h h0
 case sl us h1 h2 h3 h4 h5 h6=>exact .sl us h1 h2 h3 h4 h5 h6
 case nil=>exact .nil
 case raw=>exact .raw
inductive KK where
 | int|bool|pair
def b2i (b:Bool):Int:=match b with|true=>1|false=>0
inductive KeyV:KK→List Int→Value→Prop
 | int {n:Int}:KeyV .int [n] (.int .i64 n)
 | bool {b:Bool}:KeyV .bool [b2i b] (.bool b)
 | pair {a b:Int}:KeyV .pair [a,b] (.agg #[.int .i64 a,.int .i64 b])
def mget {α:Type} (z : α):List (List Int × α)→List Int→α
 | [],_=>z
 | (k',a)::r,k=>if k'=k then a else mget z r k
def mput {α:Type}:List (List Int × α)→List Int→α→List (List Int × α)
 | [],k,a=>[(k,a)]
 | (k',b)::r,k,a=>if k'=k then (k',a)::r else (k',b)::mput r k a
inductive Row:Type 1 where
 | dead
 | bx (t:Option Nat) (cells:List V)
 | row (k:Nat) (els:List V)
 | rowq (k:Nat) (els:List V)
 | byt (E:Nat) (l:List UInt8)
 | pack (Q:Loc) (subs:List (List V))
 | fz {α:Type} (enc : α→V) (l:List α)
 | mp {α:Type} (kt et:Nat) (kk:KK) (enc : α→V) (ents:List (List Int × α))
abbrev Row.box (cells:List V):Row:=.bx none cells
abbrev Rows:=List Row
def Row.mut:Row→Bool
 | .bx ..|.row ..|.rowq ..|.byt ..|.mp ..|.pack ..=>true
 | _=>false
def Row.one:Row→Bool
 | .pack ..=>false
 | _=>true
def Occ (q:Loc) (r:Nat) (x:Row) (b:Nat):Prop :=
 match x with
 | .pack Q subs=>∃ j n c k,j < subs.length∧Q j=some (some b,n,c,k)
 | _=>∃ n c k,q r=some (some b,n,c,k)
theorem occ_one {q:Loc} {r:Nat} {x:Row} {b n c k:Nat} (h:x.one=true) (hq:q r=some (some b,n,c,k)):Occ q r x b:=by
 cases x<;>first|exact ⟨n,c,k,hq⟩|cases h
theorem occ_inv {q:Loc} {r:Nat} {x:Row} {b:Nat} (h:x.one=true) (ho:Occ q r x b):∃ n c k,q r=some (some b,n,c,k):=by
 cases x<;>first|exact ho|cases h
theorem occ_q {q q':Loc} {r r':Nat} {x:Row} {b:Nat} (h:q' r'=q r) (ho:Occ q r x b):Occ q' r' x b:=by
 cases x<;>first|exact ho|(obtain ⟨n,c,k,e⟩:=ho;exact ⟨n,c,k,h.trans e⟩)
def ElsR (m:Mem) (k:Nat) (els:List V) (arr:Array Value):Prop :=
 ∀ (i:Nat) x,els[i]?=some x→x.cells.length=k∧∀ (j:Nat) v,x.cells[j]?=some v→∃ u,arr[i*k+j]?=some u∧u.oneCell'=true∧VR m noLoc v u
def ElsQ (m:Mem) (q:Loc) (k:Nat) (els:List V) (arr:Array Value):Prop :=
 ∀ (i:Nat) x,els[i]?=some x→x.cells.length=k∧∀ (j:Nat) v,x.cells[j]?=some v→∃ u,arr[i*k+j]?=some u∧u.oneCell'=true∧VR m q v u
def CellsR (m:Mem) (q:Loc) (cells:List V) (arr:Array Value):Prop :=
 arr.size=cells.length∧∀ (j:Nat) v,cells[j]?=some v→∃ u,arr[j]?=some u∧u.oneCell'=true∧VR m q v u
def MapR (m:Mem) (kk:KK) {α:Type} (enc : α→V) (ents:List (List Int × α)) (es:Array MapEntry):Prop :=
 es.size=ents.length∧∀ (i:Nat) k a,ents[i]?=some (k,a)→∃ e,es[i]?=some e∧KeyV kk k e.key∧e.val.oneCell'=true∧VR m noLoc (enc a) e.val
def noFk (k n:Nat) (fz:Nat × Nat):Prop:=noFz n fz∧(k≠1→fz=(0,0))
theorem noFk0 (k n:Nat):noFk k n (0,0):=⟨noFz0 n,fun _=>rfl⟩
theorem noFk1 {n:Nat} {fz:Nat × Nat} (h:noFz n fz):noFk 1 n fz:=⟨h,fun h=>absurd rfl h⟩
def RowOK (R m:Mem) (q:Loc) (r:Nat):Row→Prop
 | .dead=>True
 | .bx t cells=>∃ b arr T,q r=some (some b,1,1,cells.length)∧R b=some (.cells arr T)∧(∀ T',t=some T'→T'=T)∧CellsR m q cells arr
 | .row k els=>∃ ob cap,q r=some (ob,els.length,cap,k)∧els.length≤cap∧cap≤MAXL∧(ob=none→cap=0)∧∀ b,ob=some b→∃ arr T fz,R b=some (.cells arr T fz)∧arr.size=cap*k∧ElsR m k els arr∧noFk k arr.size fz
 | .rowq k els=>∃ ob cap,q r=some (ob,els.length,cap,k)∧els.length≤cap∧cap≤MAXL∧(ob=none→cap=0)∧∀ b,ob=some b→∃ arr T fz,R b=some (.cells arr T fz)∧arr.size=cap*k∧ElsQ m q k els arr∧noFk k arr.size fz
 | .byt E l=>∃ b cap arr,q r=some (some b,l.length,cap,1)∧l.length≤cap∧cap≤MAXL∧R b=some (.cells arr E (0,0))∧arr.size=cap∧∀ (i:Nat) x,l[i]?=some x→arr[i]?=some (.int .u8 (x.toNat:Int))
 | .pack Q subs => (∀ (j : Nat) els, subs[j]? = some els → ∃ ob cap, Q j = some (ob, els.length, cap, 1) ∧ els.length ≤ cap ∧ cap ≤ MAXL ∧ (ob = none → cap = 0) ∧ ∀ b, ob = some b → ∃ arr T fz, R b = some (.cells arr T fz) ∧ arr.size = cap * 1 ∧ ElsR m 1 els arr ∧ noFk 1 arr.size fz) ∧
     ∀ j j' b n c k n' c' k',j < subs.length→j' < subs.length→Q j=some (some b,n,c,k)→Q j'=some (some b,n',c',k')→j=j'
 | .fz enc l=>∃ ob cap k,q r=some (ob,l.length,cap,k)∧VR m noLoc (.sl enc l) (.slice (row0 ob) l.length cap)∧∀ i (h:i < l.length),(enc l[i]).cells.length=k
 | .mp kt et kk enc ents=>∃ b es clock,q r=some (some b,0,0,0)∧R b=some (.map es clock)∧MapR m kk enc ents es
theorem ElsR.up {m m':Mem} {k:Nat} {els:List V} {arr:Array Value} (h:ElsR m k els arr) (hm:m.Le m'):ElsR m' k els arr:=fun i x e =>
 ⟨(h i x e).1,fun j v e'=>let ⟨u,h1,h2,h3⟩:=(h i x e).2 j v e';⟨u,h1,h2,h3.up hm (Loc.Le.refl _)⟩⟩
theorem ElsQ.up {m m':Mem} {q q':Loc} {k:Nat} {els:List V} {arr:Array Value} (h:ElsQ m q k els arr) (hm:m.Le m') (hq:q.Le q'):ElsQ m' q' k els arr:=fun i x e =>
 ⟨(h i x e).1,fun j v e'=>let ⟨u,h1,h2,h3⟩:=(h i x e).2 j v e';⟨u,h1,h2,h3.up hm hq⟩⟩
theorem ElsR.q {m:Mem} {q:Loc} {k:Nat} {els:List V} {arr:Array Value} (h:ElsR m k els arr):ElsQ m q k els arr:=fun i x e =>
 ⟨(h i x e).1,fun j v e'=>let ⟨u,h1,h2,h3⟩:=(h i x e).2 j v e';⟨u,h1,h2,h3.up (Mem.Le.refl m) (noLoc_le q)⟩⟩
theorem CellsR.up {m m':Mem} {q q':Loc} {cells:List V} {arr:Array Value} (h:CellsR m q cells arr) (hm:m.Le m') (hq:q.Le q'):CellsR m' q' cells arr :=
 ⟨h.1,fun j v e=>let ⟨u,h1,h2,h3⟩:=h.2 j v e;⟨u,h1,h2,h3.up hm hq⟩⟩
theorem RowOK.up {R R' m m':Mem} {q q':Loc} {r:Nat} {x:Row} (h:RowOK R m q r x) (hm:m.Le m') (hq:q.Le q') (hR:x.mut=true→∀ b,Occ q r x b→R' b=R b):RowOK R' m' q' r x:=by
 cases x with
 | dead=>trivial
 | bx t cells =>
  obtain ⟨b,arr,T,h1,h2,hT,h3⟩:=h
  exact ⟨b,arr,T,hq _ _ h1,by rw [hR rfl _ ⟨_,_,_,h1⟩];exact h2,hT,h3.up hm hq⟩
 | row k els =>
  obtain ⟨ob,cap,h1,h2,h3,h4,h5⟩:=h
  refine ⟨ob,cap,hq _ _ h1,h2,h3,h4,fun b e=>?_⟩
  obtain ⟨arr,T,fz,h6,h7,h8,h9⟩:=h5 b e
  subst e
  exact ⟨arr,T,fz,by rw [hR rfl _ ⟨_,_,_,h1⟩];exact h6,h7,h8.up hm,h9⟩
 | rowq k els =>
  obtain ⟨ob,cap,h1,h2,h3,h4,h5⟩:=h
  refine ⟨ob,cap,hq _ _ h1,h2,h3,h4,fun b e=>?_⟩
  obtain ⟨arr,T,fz,h6,h7,h8,h9⟩:=h5 b e
  subst e
  exact ⟨arr,T,fz,by rw [hR rfl _ ⟨_,_,_,h1⟩];exact h6,h7,h8.up hm hq,h9⟩
 | byt E l =>
  obtain ⟨b,cap,arr,h1,h2,h3,h4,h5⟩:=h
  exact ⟨b,cap,arr,hq _ _ h1,h2,h3,by rw [hR rfl _ ⟨_,_,_,h1⟩];exact h4,h5⟩
 | pack Q subs =>
  refine ⟨fun j els hj=>?_,h.2⟩
  obtain ⟨ob,cap,h1,h2,h3,h4,h5⟩:=h.1 j els hj
  refine ⟨ob,cap,h1,h2,h3,h4,fun b e=>?_⟩
  obtain ⟨arr,T,fz,h6,h7,h8,h9⟩:=h5 b e
  subst e
  exact ⟨arr,T,fz,by rw [hR rfl _ ⟨j,_,_,_,(List.getElem?_eq_some_iff.1 hj).1,h1⟩];exact h6,h7,h8.up hm,h9⟩
 | fz enc l =>
  obtain ⟨ob,cap,k,h1,h2,h3⟩:=h
  exact ⟨ob,cap,k,hq _ _ h1,h2.up hm (Loc.Le.refl _),h3⟩
 | mp kt et kk enc ents =>
  obtain ⟨b,es,clock,h1,h2,h3,h4⟩:=h
  exact ⟨b,es,clock,hq _ _ h1,by rw [hR rfl _ ⟨_,_,_,h1⟩];exact h2,h3,fun i k a e=>let ⟨x,g1,g2,g3,g4⟩:=h4 i k a e;⟨x,g1,g2,g3,g4.up hm (Loc.Le.refl _)⟩⟩
structure RowsOK (R m:Mem) (q:Loc) (rows:Rows):Prop where
 fresh:∀ r x,q r=some x→r < rows.length
 row:∀ (r:Nat) x,rows[r]?=some x→RowOK R m q r x
 apart:∀ (r r':Nat) x x' b,rows[r]?=some x→rows[r']?=some x'→x.mut=true→x'.mut=true→Occ q r x b→Occ q r' x' b→r=r'
class Glob where
 mem:Mem
variable [Glob]
structure Start where
 w:World
 X:List Nat
structure Sit (w0:Start) (m0 R m:Mem) (w:World):Prop where
 bel:Bel w0.X w0.w w
 own:∀ b o,R b=some o→(w0.w.heap.size≤b∨b∈w0.X)∧w.heap[b]?=some o∧m b=none
 mem:Sub m w
 low:∀ b o,m b=some o→b < w0.w.heap.size→b ∉ w0.X→m0 b=some o
 glob:Glob.mem.Le m
section
variable {w0:Start} {w w':World} {m0 R m:Mem}
theorem Sit.lt (S:Sit w0 m0 R m w) {b:Nat} {o:Obj} (h:R b=some o):b < w.heap.size:=lt_of_heap (S.own b o h).2.1
theorem Sit.start (hm:Sub m w) (hg:Glob.mem.Le m):Sit ⟨w,[]⟩ m (fun _=>none) m w:=⟨Bel.refl _ _,fun b o h=>by simp at h,hm,fun _ _ h _ _=>h,hg⟩
theorem Sit.step (S:Sit w0 m0 R m w) (h:Bel [] w w'):Sit w0 m0 R m w' :=
 ⟨S.bel.then h (fun _ h=>by cases h),fun b o hb=>⟨(S.own b o hb).1,by rw [h.block _ (S.lt hb) (by simp)];exact (S.own b o hb).2.1,(S.own b o hb).2.2⟩,
  fun b o e=>by rw [h.block _ (S.mem.lt e) (by simp)];exact S.mem b o e,S.low,S.glob⟩
theorem Sit.grow (S:Sit w0 m0 R m w) (h:Bel [] w w'):Sit w0 m0 R (grow m w w') w' :=
 ⟨(S.step h).bel,fun b o hb=>⟨((S.step h).own b o hb).1,((S.step h).own b o hb).2.1,by unfold Gw.grow;rw [if_pos (S.lt hb)];exact (S.own b o hb).2.2⟩,
  fun b o e=>by
   unfold Gw.grow at e
   split at e
   ·exact (S.step h).mem b o e
   ·exact e,
  fun b o e hb hx=>by
   unfold Gw.grow at e
   rw [if_pos (Nat.lt_of_lt_of_le hb S.bel.size)] at e
   exact S.low b o e hb hx,
  S.glob.trans fun b o e=>by unfold Gw.grow;rw [if_pos (S.mem.lt e)];exact e⟩
theorem Sit.new (S:Sit w0 m0 R m w) (o:Obj):Sit w0 m0 (R.put w.heap.size o) m (w.alloc o):=by
 have T:=S.step (Bel.alloc [] w o)
 refine ⟨T.bel,fun b o' h=>?_,T.mem,S.low,S.glob⟩
 unfold Mem.put at h
 split at h
 ·rename_i e
  subst e
  cases h
  refine ⟨.inl S.bel.size,Gw.heap_alloc_new w o,?_⟩
  cases hm:m w.heap.size with
  | none=>rfl
  | some o'=>have:=S.mem.lt hm;omega
 ·exact T.own b o' h
theorem Sit.write (S:Sit w0 m0 R m w) {b:Nat} {o o':Obj} (h:R b=some o) (hw:Bel [b] w w') (hn:w'.heap[b]?=some o'):Sit w0 m0 (R.put b o') m w':=by
 have hb:=S.own b o h
 refine ⟨S.bel.then hw (fun k hk=>by simp at hk;subst hk;exact hb.1),fun k o2 hk=>?_,fun k o2 e=>?_,S.low,S.glob⟩
 ·unfold Mem.put at hk
  split at hk
  ·rename_i e;subst e;cases hk;exact ⟨hb.1,hn,hb.2.2⟩
  ·rename_i e
   have:=S.own k o2 hk
   exact ⟨this.1,by rw [hw.block _ (S.lt hk) (by simpa using e)];exact this.2.1,this.2.2⟩
 ·rw [hw.block _ (S.mem.lt e) (by
   intro hx;simp at hx;subst hx
   rw [hb.2.2] at e;cases e)]
  exact S.mem k o2 e
def Mem.del (R:Mem) (b:Nat):Mem:=fun k=>if k=b then none else R k
theorem Sit.freeze (S:Sit w0 m0 R m w) {b:Nat} {o:Obj} (h:R b=some o):Sit w0 m0 (Mem.del R b) (m.put b o) w∧m.Le (m.put b o):=by
 have hb:=S.own b o h
 have hle:m.Le (m.put b o):=fun k o' e=>by
  unfold Mem.put
  split
  ·rename_i h';subst h';rw [hb.2.2] at e;cases e
  ·exact e
 refine ⟨⟨S.bel,fun k o' hk=>?_,fun k o' e=>?_,fun k o' e hk hx=>?_,S.glob.trans hle⟩,hle⟩
 ·unfold Mem.del at hk
  split at hk
  ·cases hk
  ·rename_i e
   have:=S.own k o' hk
   refine ⟨this.1,this.2.1,?_⟩
   unfold Mem.put
   rw [if_neg e];exact this.2.2
 ·unfold Mem.put at e
  split at e
  ·rename_i h';subst h';rw [hb.2.1];exact e
  ·exact S.mem k o' e
 ·unfold Mem.put at e
  rw [if_neg (fun h=>by
   subst h
   rcases hb.1 with h|h
   ·omega
   ·exact hx h)] at e
  exact S.low k o' e hk hx
theorem Sit.le {w0:World} (S:Sit ⟨w0,[]⟩ m0 R m w):m.Le (Gw.grow m0 w0 w):=fun b o e=>by
 unfold Gw.grow
 split
 ·rename_i h;exact S.low b o e h (fun h=>by cases h)
 ·exact S.mem b o e
end
end Gv
end PartV1
section PartV2
namespace Gv
open Go Go.RowKit Gw
variable [Glob]
def byteV (b:UInt8):V:=.int .u8 b.toNat
def strV (s:List UInt8):V:=.str s
inductive TK where
 | other|bool|str|int (k:IntKind)|slice (E:Nat)|struct (fs:List (Nat × Nat))|array (n E:Nat)|map (K E:Nat)|iface
inductive Opt (A B:Prop):Prop
 | a (h:A)
 | b (h:B)
structure TI where
 zero:Value
 size:Nat
 bytes:Nat
 agg:Bool
 kind:TK
abbrev Spec:=List V→(V→Prop)→Prop
abbrev PSpec:=List V→List Row→(V→List Row→Prop)→Prop
structure FnI where
 fn:Func
 hooks:List Nat:=[]
 draws:List (Nat × List Nat):=[]
 frz:Bool:=false
 spec:Option PSpec:=none
structure Env where
 P:Program
 tys:List (Nat × TI)
 lib:List (Nat × Spec)
 fns:List (Nat × FnI)
 prims:List (Nat × PSpec):=[]
 eqs:List (Nat × List Bool):=[]
def look.{u} {α:Type u}:List (Nat × α)→Nat→Option α
 | [],_=>none
 | (k,v)::r,t=>match Nat.beq k t with|true=>some v|false=>look r t
def nth.{u} {α:Type u}:List α→Nat→Option α
 | [],_=>none
 | x::_,0=>some x
 | _::r,n+1=>nth r n
def memN (t:Nat):List Nat→Bool
 | []=>false
 | x::r=>match Nat.beq x t with|true=>true|false=>memN t r
abbrev VSlots:=List (Nat × V)
def numK (n:Nat) (k:Nat→Prop):Prop :=
 match n with
 | 0=>k 0|1=>k 1|2=>k 2|3=>k 3|4=>k 4|5=>k 5|6=>k 6|7=>k 7|8=>k 8|9=>k 9
 | 10=>k 10|11=>k 11|12=>k 12|13=>k 13|14=>k 14|15=>k 15|16=>k 16|17=>k 17|18=>k 18|19=>k 19
 | 20=>k 20|21=>k 21|22=>k 22|23=>k 23|24=>k 24|25=>k 25|26=>k 26|27=>k 27|28=>k 28|29=>k 29
 | n=>k n
def takeK:Nat→List V→(List V→Prop)→Prop
 | 0,_,k=>k []
 | n+1,v::r,k=>takeK n r fun cs=>k (v::cs)
 | _+1,[],_=>False
def dropL.{u} {α:Type u}:Nat→List α→List α
 | 0,l=>l
 | n+1,_::r=>dropL n r
 | _+1,[]=>[]
def storeK:List V→Nat→List V→(List V→Prop)→Prop
 | c::r,n+1,vs,k=>storeK r n vs fun r'=>k (c::r')
 | r,0,[],k=>k r
 | _::r,0,v::vs,k=>storeK r 0 vs fun r'=>k (v::r')
 | [],_+1,_,_=>False
 | [],0,_::_,_=>False
def setK:Rows→Nat→Row→(Rows→Prop)→Prop
 | _::r,0,y,k=>k (y::r)
 | x::r,n+1,y,k=>setK r n y fun r'=>k (x::r')
 | [],_,_,_=>False
def pushK:Nat→Rows→Row→(Nat→Rows→Prop)→Prop
 | n,[],y,k=>numK n fun n=>k n [y]
 | n,x::r,y,k=>pushK (n+1) r y fun i r'=>k i (x::r')
def appK.{u} {α:Type u}:List α→List α→(List α→Prop)→Prop
 | [],l,k=>k l
 | x::r,l,k=>appK r l fun r'=>k (x::r')
def const1:Value→Option V
 | .int k n=>some (.int k n)
 | .bool b=>some (.lit b)
 | .string s=>match Nat.ble s.data.toList.length MAXL with|true=>some (.str s.data.toList)|false=>none
 | .slice none 0 0=>some .nil
 | .agg _=>none
 | .tuple _=>none
 | v=>some (.raw v)
def constL:List Value→(List V→Prop)→Prop
 | [],k=>k []
 | v::r,k=>match const1 v with|some x=>constL r fun xs=>k (x::xs)|none=>False
def constK:Value→(V→Prop)→Prop
 | .agg cs,k=>constL cs.toList fun xs=>k (.agg xs)
 | v,k=>match const1 v with|some x=>k x|none=>False
def evO (L:VSlots):Operand→(V→Prop)→Prop
 | .tmp t,k=>match look L t with|some v=>k v|none=>False
 | .const c,k=>constK c k
 | .func f,k=>k (.fn f [])
 | .global _,_=>False
def evL (L:VSlots):List Operand→(List V→Prop)→Prop
 | [],k=>k []
 | x::r,k=>evO L x fun v=>evL L r fun vs=>k (v::vs)
def tiK (E:Env) (T:Nat) (k:TI→Prop):Prop:=match look E.tys T with|some i=>k i|none=>False
def V.Le (v v':V):Prop:=∀ m u,VR m noLoc v u→VR m noLoc v' u
structure LeL (xs ys:List V):Prop where
 len:xs.length=ys.length
 el:∀ (i:Nat) x y,xs[i]?=some x→ys[i]?=some y→x.cells.length=y.cells.length∧∀ (j:Nat) v v',x.cells[j]?=some v→y.cells[j]?=some v'→v.Le v'
theorem V.Le.refl (v:V):v.Le v:=fun _ _ h=>h
theorem LeL.refl (xs:List V):LeL xs xs:=⟨rfl,fun i x y e e'=>by
 rw [e] at e';cases e'
 exact ⟨rfl,fun j v v' h h'=>by rw [h] at h';cases h';exact V.Le.refl _⟩⟩
def fz1:V→Rows→(V→Rows→Prop)→Prop
 | .own r,rows,k=>match nth rows r with
  | some (.row _ els)=>∃ (α:Type) (enc : α→V) (l:List α),LeL els (l.map enc)∧setK rows r (.fz enc l) fun rows'=>k (.sl enc l) rows'
  | some (.fz enc l)=>k (.sl enc l) rows
  | _=>False
 | .nil,rows,k=>∃ (α:Type) (enc : α→V),k (.sl enc []) rows
 | .lit b,rows,k=>k (.bool b) rows
 | .int q n,rows,k=>k (.int q n) rows
 | .bool b,rows,k=>k (.bool b) rows
 | .str s,rows,k=>k (.str s) rows
 | .sl enc l,rows,k=>k (.sl enc l) rows
 | .raw v,rows,k=>k (.raw v) rows
 | _,_,_=>False
def fzL1 (vs:List V):Rows→(List V→Rows→Prop)→Prop :=
 List.rec (motive:=fun _=>Rows→(List V→Rows→Prop)→Prop) (fun rows k=>k [] rows) (fun v _ ih rows k=>fz1 v rows fun v' rows'=>ih rows' fun r' rows''=>k (v'::r') rows'') vs
def fzA:V→Rows→(V→Rows→Prop)→Prop
 | .agg cs,rows,k=>fzL1 cs rows fun cs' rows'=>k (.agg cs') rows'
 | .fn f cs,rows,k=>fzL1 cs rows fun cs' rows'=>k (.fn f cs') rows'
 | v,rows,k=>fz1 v rows k
def fzLA (vs:List V):Rows→(List V→Rows→Prop)→Prop :=
 List.rec (motive:=fun _=>Rows→(List V→Rows→Prop)→Prop) (fun rows k=>k [] rows) (fun v _ ih rows k=>fzA v rows fun v' rows'=>ih rows' fun r' rows''=>k (v'::r') rows'') vs
def fzT:V→Rows→(V→Rows→Prop)→Prop
 | .tup cs,rows,k=>fzLA cs rows fun cs' rows'=>k (.tup cs') rows'
 | v,rows,k=>fzA v rows k
def fzC1:V→Rows→(V→Rows→Prop)→Prop
 | .own r,rows,k=>fz1 (.own r) rows k
 | v,rows,k=>k v rows
def fzCL:List V→Rows→(List V→Rows→Prop)→Prop
 | [],rows,k=>k [] rows
 | v::r,rows,k=>fzC1 v rows fun v' rows'=>fzCL r rows' fun r' rows''=>k (v'::r') rows''
def fzS1:V→Rows→(V→Rows→Prop)→Prop
 | .agg cs,rows,k=>fzCL cs rows fun cs' rows'=>k (.agg cs') rows'
 | v,rows,k=>k v rows
def fzS:List V→Rows→(List V→Rows→Prop)→Prop
 | [],rows,k=>k [] rows
 | v::r,rows,k=>fzS1 v rows fun v' rows'=>fzS r rows' fun r' rows''=>k (v'::r') rows''
def fzD1 (v:V) (rows:Rows) (k:V→Rows→Prop):Prop:=match v with
 | .own r=>fz1 (.own r) rows k
 | .nil=>fz1 .nil rows k
 | v=>k v rows
def fzDL (vs:List V):Rows→(List V→Rows→Prop)→Prop :=
 List.rec (motive:=fun _=>Rows→(List V→Rows→Prop)→Prop) (fun rows k=>k [] rows) (fun v _ ih rows k=>fzD1 v rows fun v' rows'=>ih rows' fun r' rows''=>k (v'::r') rows'') vs
def fzDS1 (v:V) (rows:Rows) (k:V→Rows→Prop):Prop:=match v with
 | .agg cs=>fzDL cs rows fun cs' rows'=>k (.agg cs') rows'
 | v=>k v rows
def fzDS (vs:List V):Rows→(List V→Rows→Prop)→Prop :=
 List.rec (motive:=fun _=>Rows→(List V→Rows→Prop)→Prop) (fun rows k=>k [] rows) (fun v _ ih rows k=>fzDS1 v rows fun v' rows'=>ih rows' fun r' rows''=>k (v'::r') rows'') vs
def loadK (agg:Bool) (sz:Nat) (cells:List V) (o:Nat) (k:V→Prop):Prop :=
 match agg with
 | true=>takeK sz (dropL o cells) fun cs=>k (.agg cs)
 | false=>match nth cells o with|some v=>k v|none=>False
def loadO (E:Env) (T:Nat) (a:V) (rows:Rows) (k:V→Prop):Prop :=
 tiK E T fun i=>match a with
  | .elt x o=>loadK i.agg i.size x.cells o k
  | .ptr r j o=>match nth rows r with
   | some (.bx _ cells)=>match j with|0=>loadK i.agg i.size cells o k|_+1=>False
   | some (.row _ els)=>∃ x,els[j]?=some x∧loadK i.agg i.size x.cells o k
   | some (.rowq _ els)=>∃ x,els[j]?=some x∧loadK i.agg i.size x.cells o k
   | some (.fz enc l)=>∃ h:j < l.length,loadK i.agg i.size (enc l[j]).cells o k
   | _=>False
  | _=>False
def allPure:List V→Bool
 | []=>true
 | v::r=>match v.pure with|true=>allPure r|false=>false
def allFlat:List V→Bool
 | []=>true
 | v::r=>match v.flat with|true=>allFlat r|false=>false
def storeO (E:Env) (T:Nat) (a v:V) (rows:Rows) (k:Rows→Prop):Prop :=
 tiK E T fun i=>match Nat.beq v.cells.length i.size,allFlat v.cells,a with
  | true,true,.ptr r j o=>match nth rows r with
   | some (.bx t cells)=>match j with|0=>storeK cells o v.cells fun cells'=>setK rows r (.bx t cells') k|_+1=>False
   | some (.row q els)=>match Nat.beq o 0,Nat.beq q i.size,allPure v.cells with
    | true,true,true=>j < els.length∧setK rows r (.row q (els.set j v)) k
    | false,_,true=>∃ x,els[j]?=some x∧storeK x.cells o v.cells fun cs=>setK rows r (.row q (els.set j (.agg cs))) k
    | true,false,true=>∃ x,els[j]?=some x∧storeK x.cells o v.cells fun cs=>setK rows r (.row q (els.set j (.agg cs))) k
    | _,_,false=>False
   | some (.rowq q els)=>match Nat.beq o 0,Nat.beq q i.size with
    | true,true=>j < els.length∧setK rows r (.rowq q (els.set j v)) k
    | _,_=>∃ x,els[j]?=some x∧storeK x.cells o v.cells fun cs=>setK rows r (.rowq q (els.set j (.agg cs))) k
   | _=>False
  | _,_,_=>False
def intOp (op:BinOp) (q:IntKind) (a b:Int) (k:V→Prop):Prop :=
 match op with
 | .lss=>k (.bool (decide (a < b)))|.leq=>k (.bool (decide (a≤b)))|.gtr=>k (.bool (decide (b < a)))|.geq=>k (.bool (decide (b≤a)))
 | .eql=>k (.bool (decide (a=b)))|.neq=>k (.bool (!decide (a=b)))
 | .add=>match q with|.i64=>I64 (a+b)∧k (.int .i64 (a+b))|_=>False
 | .sub=>match q with|.i64=>I64 (a-b)∧k (.int .i64 (a-b))|_=>False
 | .mul=>match q with|.i64=>I64 (a*b)∧k (.int .i64 (a*b))|_=>False
 | .quo=>match q with|.i64=>(0≤a∧a≤9223372036854775807∧1≤b)∧k (.int .i64 (a / b))|_=>False
 | .rem=>match q with|.i64=>b≠0∧k (.int .i64 (a.tmod b))|_=>False
 | _=>False
def strOp (op:BinOp) (a b:List UInt8) (k:V→Prop):Prop :=
 match op with
 | .eql=>k (.bool (decide (a=b)))|.neq=>k (.bool (!decide (a=b)))|.lss=>k (.bool (Op.bytesLess a b))
 | .leq=>k (.bool (Op.bytesLess a b || decide (a=b)))|.gtr=>k (.bool (!(Op.bytesLess a b || decide (a=b))))|.geq=>k (.bool (!Op.bytesLess a b))
 | .add=>a.length+b.length≤MAXL∧k (.str (a++b))
 | _=>False
def flatB (P:Program) (T:Nat) (ks:List Bool):Bool :=
 match P.underlying T with
 | some (.struct fields) => !P.stoodInHeld T && !P.eqGuardType P.depth T && Nat.beq fields.toList.length ks.length && (fields.toList.zipIdx.all fun p => p.1.name != "_" && Nat.beq p.1.offset p.2 && (match P.underlying p.1.type, nth ks p.2 with | some (.int .i64), some true => true | some .string, some false => true | _, _ => false))
 | _=>false
def eqCells:List Bool→List V→List V→(Bool→Prop)→Prop
 | [],[],[],k=>k true
 | true::ks,.int .i64 a::r,.int .i64 b::s,k=>eqCells ks r s fun c=>k (decide (a=b) && c)
 | false::ks,.str a::r,.str b::s,k=>eqCells ks r s fun c=>k (decide (a=b) && c)
 | _,_,_,_=>False
def ikEq:IntKind→IntKind→Bool
 | .i64,.i64=>true
 | .u8,.u8=>true
 | .i32,.i32=>true
 | .u64,.u64=>true
 | .u32,.u32=>true
 | _,_=>false
def boolOf:V→Option Bool
 | .bool b=>some b
 | .lit b=>some b
 | _=>none
def binO (E:Env) (op:BinOp) (T:Nat) (x y:V) (k:V→Prop):Prop :=
 match x,y with
 | .int q a,.int q' b=>match ikEq q q' with|true=>intOp op q a b k|false=>False
 | .str a,.str b=>strOp op a b k
 | .agg xs,.agg ys=>match look E.eqs T with
  | some []=>False
  | some n=>match op with
   | .eql=>eqCells n xs ys fun b=>k (.bool b)
   | .neq=>eqCells n xs ys fun b=>k (.bool (!b))
   | _=>False
  | none=>False
 | .sl enc l,.nil=>tiK E T fun i=>match i.kind,op with
  | .slice _,.eql=>∀ b:Bool,(b=true→l=[])→k (.bool b)
  | .slice _,.neq=>∀ b:Bool,(b=true→l=[])→k (.bool (!b))
  | _,_=>False
 | x,y=>tiK E T fun i=>match i.kind,boolOf x,boolOf y,op with
  | .bool,some a,some b,.eql=>k (.bool (a == b))
  | .bool,some a,some b,.neq=>k (.bool (!(a == b)))
  | _,_,_,_=>False
def nilO (E:Env) (op:BinOp) (T:Nat) (a:V) (k:V→Prop):Prop :=
 tiK E T fun i=>match i.kind,a,op with
  | .iface,.raw .nilIface,.eql=>k (.lit true)
  | .iface,.raw .nilIface,.neq=>k (.lit false)
  | .iface,.raw (.iface _ _),.eql=>k (.lit false)
  | .iface,.raw (.iface _ _),.neq=>k (.lit true)
  | _,_,_=>False
def elsOf:V→Rows→Option (List V)
 | .sl enc l,_=>some (l.map enc)
 | .nil,_=>some []
 | .str s,_=>some (s.map byteV)
 | .own r,rows=>match nth rows r with
  | some (.row _ els)=>some els
  | some (.fz enc l)=>some (l.map enc)
  | _=>none
 | _,_=>none
def elN (n:Nat):V→Rows→Prop
 | .sl enc _,_=>∀ a,(enc a).cells.length=n
 | .nil,_=>True
 | .str _,_=>n=1
 | .own r,rows=>match nth rows r with
  | some (.row q _)=>Nat.beq q n=true
  | some (.fz enc _)=>∀ a,(enc a).cells.length=n
  | _=>False
 | _,_=>False
def lenO:V→Rows→(Nat→Prop)→Prop
 | .sl _ l,_,k=>k l.length
 | .nil,_,k=>k 0
 | .own r,rows,k=>match nth rows r with
  | some (.row _ els)=>k els.length
  | some (.rowq _ els)=>k els.length
  | some (.fz _ l)=>k l.length
  | _=>False
 | _,_,_=>False
def appO (E:Env) (T:Nat) (x y:V) (rows:Rows) (k:V→Rows→Prop):Prop :=
 tiK E T fun i=>match i.kind with
  | .slice El=>tiK E El fun e=>match Nat.ble 1 e.bytes with
   | true=>elN e.size y rows∧match elsOf y rows with
    | some ys=>match x with
     | .nil=>ys.length*e.bytes≤140737488355328∧pushK 0 rows (.row e.size ys) fun r rows'=>k (.own r) rows'
     | .own r=>match nth rows r with
      | some (.row q els)=>match Nat.beq q e.size with
       | true=>(els.length+ys.length)*e.bytes≤140737488355328∧setK rows r .dead fun rows'=>pushK 0 rows' (.row e.size (els++ys)) fun r' rows''=>k (.own r') rows''
       | false=>False
      | _=>False
     | _=>False
    | none=>False
   | false=>False
  | _=>False
def kkOf (E:Env) (K:Nat):Option KK:=match look E.tys K with
 | some i=>match i.kind with
  | .int .i64=>some .int
  | .bool=>some .bool
  | .struct _=>match look E.eqs K with
   | some [true,true]=>some .pair
   | _=>none
  | _=>none
 | none=>none
def keyK (kk:KK) (v:V) (k:List Int→Prop):Prop :=
 match kk,v with
 | .int,.int .i64 n=>k [n]
 | .bool,.bool b=>k [b2i b]
 | .bool,.lit b=>k [b2i b]
 | .pair,.agg [.int .i64 a,.int .i64 b]=>k [a,b]
 | _,_=>False
def kkEq:KK→KK→Bool
 | .int,.int=>true
 | .bool,.bool=>true
 | .pair,.pair=>true
 | _,_=>false
def mapK (E:Env) (T:Nat) (v:V) (rows:Rows) (k:(α:Type)→(enc : α→V)→List (List Int × α)→KK→Nat→Nat→Nat→Prop):Prop :=
 tiK E T fun i=>match i.kind,v with
  | .map K El,.map r=>match nth rows r with
   | some (.mp (α:=α) kt et kk enc ents)=>match Nat.beq kt K,Nat.beq et El,kkOf E K with
    | true,true,some kk'=>match kkEq kk kk' with
     | true=>k α enc ents kk kt et r
     | false=>False
    | _,_,_=>False
   | _=>False
  | _,_=>False
def mapPutO (E:Env) (T:Nat) (mv kv v:V) (rows:Rows) (k:V→Rows→Prop):Prop :=
 mapK E T mv rows fun α enc ents kk kt et r=>keyK kk kv fun ks=>∃ a : α,enc a=v∧v.flat=true∧v.pure=true∧setK rows r (.mp kt et kk enc (mput ents ks a)) fun rows'=>k (.tup []) rows'
def mapGetO (E:Env) (T:Nat) (mv kv:V) (rows:Rows) (k:V→Prop):Prop :=
 mapK E T mv rows fun α enc ents kk kt et r=>keyK kk kv fun ks=>tiK E et fun e=>constK e.zero fun zv=>∃ z : α,enc z=zv∧k (enc (mget z ents ks))
def builtO (E:Env) (b:Builtin) (ats:List TypeId) (vs:List V) (rows:Rows) (k:V→Rows→Prop):Prop :=
 match b,ats,vs with
 | .len,[T],[v]=>tiK E T fun i=>match i.kind,v with
  | .slice _,.str _=>False
  | .slice _,v=>lenO v rows fun n=>n≤MAXL→k (.int .i64 (n:Int)) rows
  | .str,.str s=>s.length≤MAXL→k (.int .i64 (s.length:Int)) rows
  | .map _ _,v=>mapK E T v rows fun α enc ents kk kt et r=>k (.int .i64 (ents.length:Int)) rows
  | _,_=>False
 | .cap,[T],[.nil]=>tiK E T fun i=>match i.kind with
  | .slice _=>k (.int .i64 0) rows
  | _=>False
 | .append,[T,U],[.nil,.int .i64 n]=>tiK E U fun u=>match u.kind with
  | .int .i64=>tiK E T fun i=>match i.kind with
   | .slice El=>tiK E El fun e=>match Nat.ble 1 e.bytes with
    | true=>constK e.zero fun z=>match Nat.beq z.cells.length e.size,allPure z.cells,allFlat z.cells with
     | true,true,true=>∃ c:Nat,n=(c:Int)∧1≤c∧c*e.bytes≤140737488355328∧pushK 0 rows (.row e.size (List.replicate c z)) fun r rows'=>k (.own r) rows'
     | _,_,_=>False
    | false=>False
   | _=>False
  | _=>False
 | .min,_,[.int .i64 a,.int .i64 b]=>k (.int .i64 (min a b)) rows
 | .max,_,[.int .i64 a,.int .i64 b]=>k (.int .i64 (max a b)) rows
 | .append,[T,U],[x,y]=>tiK E U fun u=>match u.kind with
  | .slice _=>appO E T x y rows k
  | .str=>appO E T x y rows k
  | _=>False
 | _,_,_=>False
def placesL (E:Env):List (Nat × Nat)→(List (Nat × Nat)→Prop)→Prop
 | [],k=>k []
 | (T,off)::r,k=>tiK E T fun i=>placesL E r fun ps=>k ((off,i.size)::ps)
def fillK (L:VSlots) (ps:List (Nat × Nat)):List (Nat × Operand)→List V→(List V→Prop)→Prop
 | [],cells,k=>k cells
 | (f,x)::r,cells,k=>evO L x fun v=>match nth ps f with
  | some (off,sz)=>match Nat.beq v.cells.length sz,allFlat v.cells with
   | true,true=>storeK cells off v.cells fun cells'=>fillK L ps r cells' k
   | _,_=>False
  | none=>False
def partsK (E:Env) (L:VSlots) (sz i:Nat) (ps:List (Nat × Operand)):Rows→(List V→Rows→Prop)→Prop :=
 List.rec (motive:=fun _=>Nat→Rows→(List V→Rows→Prop)→Prop) (fun _ rows k=>k [] rows) (fun p _ ih i rows k=>match Nat.beq i p.1 with
  | true=>evO L p.2 fun v=>fzA v rows fun v' rows'=>match Nat.beq v'.cells.length sz,allFlat v'.cells with
   | true,true=>ih (i+1) rows' fun vs rows''=>k (v'::vs) rows''
   | _,_=>False
  | false=>False) ps i
theorem partsK_cons {E:Env} {L:VSlots} {sz i j:Nat} {x:Operand} {r:List (Nat × Operand)} {rows:Rows} {k:List V→Rows→Prop}:partsK E L sz i ((j, x)::r) rows k=match Nat.beq i j with
  | true=>evO L x fun v=>fzA v rows fun v' rows'=>match Nat.beq v'.cells.length sz,allFlat v'.cells with
   | true,true=>partsK E L sz (i+1) r rows' fun vs rows''=>k (v'::vs) rows''
   | _,_=>False
  | false=>False:=rfl
def idxO (v:V) (n:Int) (sz:Nat) (rows:Rows) (k:V→Prop):Prop :=
 match v with
 | .sl enc l=>∃ i:Nat,n=(i:Int)∧∃ h:i < l.length,(enc l[i]).cells.length=sz∧k (.elt (enc l[i]) 0)
 | .own r=>match nth rows r with
  | some (.row q els)=>Nat.beq q sz=true∧∃ i:Nat,n=(i:Int)∧i < els.length∧k (.ptr r i 0)
  | some (.rowq q els)=>Nat.beq q sz=true∧∃ i:Nat,n=(i:Int)∧i < els.length∧k (.ptr r i 0)
  | some (.fz enc l)=>∃ i:Nat,n=(i:Int)∧∃ h:i < l.length,(enc l[i]).cells.length=sz∧k (.elt (enc l[i]) 0)
  | _=>False
 | _=>False
def boundK (L:VSlots) (x:Option Operand) (dflt:Nat) (k:Int→Prop):Prop :=
 match x with
 | none=>k (dflt:Int)
 | some o=>evO L o fun v=>match v with|.int _ n=>k n|_=>False
def ownTake (v:V) (lo hi:Option Operand) (rows:Rows):Option (Nat × Nat × List V) :=
 match v,lo,hi with
 | .own r,none,some _=>match nth rows r with
  | some (.row q els)=>some (r,q,els)
  | _=>none
 | _,_,_=>none
def sliceO (E:Env) (L:VSlots) (T:Nat) (v:V) (lo hi:Option Operand) (rows:Rows) (k:V→Rows→Prop):Prop :=
 match v with
 | .str s=>tiK E T fun i=>match i.kind with
  | .str=>boundK L lo 0 fun l=>boundK L hi s.length fun h=>∃ l' h':Nat,l=(l':Int)∧h=(h':Int)∧l'≤h'∧h'≤s.length∧k (.str ((s.take h').drop l')) rows
  | _=>False
 | .nil=>tiK E T fun i=>match i.kind with
  | .slice El=>tiK E El fun e=>boundK L lo 0 fun l=>boundK L hi 0 fun h=>l=0∧h=0∧k .nil rows
  | _=>False
 | .elt x o=>match hi with
  | none=>tiK E T fun i=>match i.kind with
   | .array n El=>tiK E El fun e=>match Nat.beq e.size 1 with
    | true=>boundK L lo 0 fun a=>∃ (α:Type) (enc : α→V) (l:List α) (a':Nat),a=(a':Int)∧a'≤n∧n≤MAXL∧l.length=n∧(∀ z,(enc z).cells=[enc z])∧(x.cells.drop o).take n=l.map enc∧k (.sl enc (l.drop a')) rows
    | false=>False
   | _=>False
  | some _=>False
 | v=>tiK E T fun i=>match i.kind with
  | .slice El=>tiK E El fun e=>match ownTake v lo hi rows with
   | some (r,q,els)=>match Nat.beq q e.size with
    | true=>boundK L hi 0 fun b=>∃ b':Nat,b=(b':Int)∧b'≤els.length∧setK rows r .dead fun rows'=>pushK 0 rows' (.row q (els.take b')) fun r' rows''=>k (.own r') rows''
    | false=>False
   | none=>fz1 v rows fun v' rows'=>match v' with
   | .sl enc l=>(∀ a,(enc a).cells.length=e.size)∧match lo,hi with
    | some lo,none=>boundK L (some lo) 0 fun a=>∃ a':Nat,a=(a':Int)∧a'≤l.length∧k (.sl enc (l.drop a')) rows'
    | none,some hi=>boundK L (some hi) 0 fun b=>∃ b':Nat,b=(b':Int)∧b'≤l.length∧k (.sl enc (l.take b')) rows'
    | some lo,some hi=>boundK L (some lo) 0 fun a=>boundK L (some hi) 0 fun b=>∃ a' b':Nat,a=(a':Int)∧b=(b':Int)∧a'≤b'∧b'≤l.length∧k (.sl enc ((l.take b').drop a')) rows'
    | none,none=>False
   | _=>False
  | _=>False
abbrev CallT:=FuncId→List V→Rows→(V→Rows→Prop)→Prop
def xop (E:Env) (call:CallT) (dr:Bool) (L:VSlots) (rows:Rows) (op:Op) (k:V→Rows→Prop):Prop :=
 match op with
 | .move x=>evO L x fun v=>k v rows
 | .assign x=>evO L x fun v=>k v rows
 | .pick c a b=>evO L c fun cv=>match cv with
  | .lit true=>evO L a fun v=>k v rows
  | .lit false=>evO L b fun v=>k v rows
  | .bool t=>∀ s:Bool,t=s→match s with|true=>evO L a fun v=>k v rows|false=>evO L b fun v=>k v rows
  | _=>False
 | .alloc T=>tiK E T fun i=>constL i.zero.cells.toList fun cs=>match look E.eqs T with
  | some []=>pushK 0 rows (.bx (some T) cs) fun r rows'=>k (.ptr r 0 0) rows'
  | _=>pushK 0 rows (.box cs) fun r rows'=>k (.ptr r 0 0) rows'
 | .box T x=>evO L x fun v=>match allFlat v.cells with
  | true=>pushK 0 rows (.box v.cells) fun r rows'=>k (.ptr r 0 0) rows'
  | false=>False
 | .build T ps=>tiK E T fun i=>match i.kind with
  | .struct fs=>constL i.zero.cells.toList fun cs=>placesL E fs fun pl=>fillK L pl ps.toList cs fun cs'=>k (.agg cs') rows
  | _=>False
 | .buildSlice T n ps=>tiK E T fun i=>match i.kind with
  | .slice El=>tiK E El fun e=>match Nat.beq ps.toList.length n,Nat.ble (n*e.size) 16777216,Nat.ble n 16777216 with
   | true,true,true=>partsK E L e.size 0 ps.toList rows fun els rows'=>match dr with
    | false=>pushK 0 rows' (.row e.size els) fun r rows''=>k (.own r) rows''
    | true=>∃ (α:Type) (enc : α→V) (l:List α),LeL els (l.map enc)∧k (.sl enc l) rows'
   | _,_,_=>False
  | _=>False
 | .makeSlice T n c=>tiK E T fun i=>match i.kind with
  | .slice El=>tiK E El fun e=>evO L n fun nv=>evO L c fun cv=>match nv,cv with
   | .int .i64 a,.int .i64 b=>a=b∧match Nat.ble 1 e.bytes with
    | true=>constK e.zero fun z=>match Nat.beq z.cells.length e.size,allPure z.cells,allFlat z.cells with
     | true,true,true=>∃ c:Nat,a=(c:Int)∧c*e.bytes≤140737488355328∧match dr with
      | false=>pushK 0 rows (.row e.size (List.replicate c z)) fun r rows'=>k (.own r) rows'
      | true=>∃ (α:Type) (enc : α→V) (l:List α),LeL (List.replicate c z) (l.map enc)∧k (.sl enc l) rows
     | _,_,_=>False
    | false=>False
   | _,_=>False
  | _=>False
 | .load T a=>evO L a fun av=>loadO E T av rows fun v=>k v rows
 | .store T a x=>evO L a fun av=>evO L x fun v=>storeO E T av v rows fun rows'=>k (.tup []) rows'
 | .nilCheck x=>evO L x fun v=>match v with
  | .ptr r i o=>k (.ptr r i o) rows
  | .elt x o=>k (.elt x o) rows
  | .fn f cs=>k (.fn f cs) rows
  | _=>False
 | .binOp op T x y _=>match y with
  | .const .nilIface=>evO L x fun a=>nilO E op T a fun v=>k v rows
  | y=>evO L x fun a=>evO L y fun b=>binO E op T a b fun v=>k v rows
 | .unOp .not _ x=>evO L x fun v=>match v with
  | .lit true=>k (.lit false) rows
  | .lit false=>k (.lit true) rows
  | .bool b=>k (.bool (!b)) rows
  | _=>False
 | .convert S D x=>tiK E S fun si=>tiK E D fun di=>evO L x fun v=>match si.kind,di.kind with
  | .slice El,.str=>match v with
   | .str _=>False
   | v=>∃ b:List UInt8,elN 1 v rows∧elsOf v rows=some (b.map byteV)∧tiK E El fun e=>match e.kind with
    | .int .u8=>k (.str b) rows
    | _=>False
  | .str,.slice El=>match v with
   | .str s=>s.length≤140737488355328∧tiK E El fun e=>match e.kind with
    | .int .u8=>match dr with
     | true=>k (.sl byteV s) rows
     | false=>Opt (k (.sl byteV s) rows) (pushK 0 rows (.row 1 (s.map byteV)) fun r rows'=>k (.own r) rows')
    | _=>False
   | _=>False
  | .slice _,.slice El=>match Nat.beq S D,v with
   | true,.own r=>match nth rows r with
    | some (.row _ els)=>tiK E El fun e=>match e.kind with
     | .int .u8=>∃ b:List UInt8,els=b.map byteV∧b≠[]∧setK rows r (.fz byteV b) fun rows'=>k (.sl byteV b) rows'
     | _=>False
    | _=>False
   | _,_=>False
  | .int a,.int b=>match v with|.int q n=>q=b∧b.wrap n=n∧k (.int b n) rows|_=>False
  | _,_=>False
 | .makeFunc (.func f) first caps=>match first.toList with
  | []=>evL L caps.toList fun vs=>k (.fn f vs) rows
  | _=>False
 | .slice T x lo hi none=>evO L x fun v=>sliceO E L T v lo hi rows k
 | .fieldAddr T x f=>tiK E T fun i=>match i.kind with
  | .struct fs=>match nth fs f with
   | some (FT,off)=>tiK E FT fun fi=>match Nat.beq fi.size 0 with
    | true=>False
    | false=>evO L x fun v=>match v with
     | .ptr r j o=>k (.ptr r j (o+off)) rows
     | .elt y o=>k (.elt y (o+off)) rows
     | _=>False
   | none=>False
  | _=>False
 | .field T x f=>tiK E T fun i=>match i.kind with
  | .struct fs=>match nth fs f with
   | some (FT,off)=>tiK E FT fun fi=>evO L x fun v=>match v with
    | .agg cs=>loadK fi.agg fi.size cs off fun w=>k w rows
    | _=>False
   | none=>False
  | _=>False
 | .indexAddr T x j=>tiK E T fun i=>match i.kind with
  | .slice El=>tiK E El fun e=>evO L x fun v=>evO L j fun jv=>match jv with
   | .int _ n=>idxO v n e.size rows fun w=>k w rows
   | _=>False
  | _=>False
 | .index T x j=>evO L x fun v=>evO L j fun jv=>match v,jv with
  | .str s,.int _ n=>∃ i:Nat,n=(i:Int)∧∃ h:i < s.length,tiK E T fun ti=>match ti.kind with
   | .str=>k (.int .u8 (s[i].toNat:Int)) rows
   | _=>False
  | .agg cs,.int _ n=>tiK E T fun ti=>match ti.kind with
   | .array len El=>tiK E El fun e=>match e.agg,Nat.beq e.size 1 with
    | false,true=>∃ i:Nat,n=(i:Int)∧i < len∧∃ v,cs[i]?=some v∧k v rows
    | _,_=>False
   | _=>False
  | _,_=>False
 | .extract x i=>evO L x fun v=>match v with
  | .tup vs=>match nth vs i with|some u=>k u rows|none=>False
  | _=>False
 | .makeMap T none=>tiK E T fun i=>match i.kind with
  | .map K El=>match kkOf E K with
   | some kk=>∃ (α:Type) (enc : α→V),pushK 0 rows (.mp K El kk enc []) fun r rows'=>k (.map r) rows'
   | none=>False
  | _=>False
 | .insert T mo ko vo=>evO L mo fun mv=>evO L ko fun kv=>evO L vo fun v=>mapPutO E T mv kv v rows k
 | .mapUpdate T mo ko vo=>evO L mo fun mv=>evO L ko fun kv=>evO L vo fun v=>mapPutO E T mv kv v rows k
 | .lookup T mo ko false=>evO L mo fun mv=>evO L ko fun kv=>mapGetO E T mv kv rows fun v=>k v rows
 | .call c=>evL L c.args.toList fun vs=>match c.callee with
  | .builtin b=>builtO E b c.argTypes.toList vs rows k
  | .value f=>evO L f fun fv=>match fv with
   | .fn g caps=>appK vs caps fun as=>call g as rows k
   | _=>False
  | .invoke ..=>False
 | _=>False
def putV (d:Option Tmp) (v:V) (L:VSlots):VSlots:=match d with|some d=>(d,v)::L|none=>L
def guardT (all:List Oper) (i:Nat):Option Tmp:=match nth all i with|some o=>o.dst|none=>none
def wpOps (E:Env) (call:CallT) (dr:Bool) (all:List Oper):List Oper→VSlots→Rows→(VSlots→Rows→Prop)→Prop
 | [],L,rows,K=>K L rows
 | o::rest,L,rows,K=>match o.guard with
  | none=>xop E call dr L rows o.op fun v rows'=>wpOps E call dr all rest (putV o.dst v L) rows' K
  | some (i,want)=>match guardT all i with
   | none=>False
   | some t=>match look L t with
    | some (.lit b)=>match b,want with
     | true,true=>xop E call dr L rows o.op fun v rows'=>wpOps E call dr all rest (putV o.dst v L) rows' K
     | false,false=>xop E call dr L rows o.op fun v rows'=>wpOps E call dr all rest (putV o.dst v L) rows' K
     | true,false=>wpOps E call dr all rest (putV o.dst (.tup []) L) rows K
     | false,true=>wpOps E call dr all rest (putV o.dst (.tup []) L) rows K
    | some (.bool c)=>∀ b:Bool,c=b→match b,want with
     | true,true=>xop E call dr ((t,.lit true)::L) rows o.op fun v rows'=>wpOps E call dr all rest (putV o.dst v ((t,.lit true)::L)) rows' K
     | false,false=>xop E call dr ((t,.lit false)::L) rows o.op fun v rows'=>wpOps E call dr all rest (putV o.dst v ((t,.lit false)::L)) rows' K
     | true,false=>wpOps E call dr all rest (putV o.dst (.tup []) ((t,.lit true)::L)) rows K
     | false,true=>wpOps E call dr all rest (putV o.dst (.tup []) ((t,.lit false)::L)) rows K
    | some (.tup [])=>wpOps E call dr all rest (putV o.dst (.tup []) L) rows K
    | _=>False
def noRefL:List V→Bool
 | []=>true
 | v::r=>match v with
  | .own _=>false
  | .ptr ..=>false
  | .map _=>false
  | .agg _=>false
  | .tup _=>false
  | .fn ..=>false
  | _=>noRefL r
def noRef:V→Bool
 | .agg cs=>noRefL cs
 | .fn _ cs=>noRefL cs
 | v=>noRefL [v]
def opsRef (L:VSlots):List Operand→Bool
 | []=>true
 | .tmp t::r=>match look L t with
  | some v=>match noRef v with|true=>opsRef L r|false=>false
  | none=>false
 | _::r=>opsRef L r
def needsRows (L:VSlots):Op→Bool
 | .move _|.assign _|.pick ..|.build ..|.nilCheck _|.binOp ..|.unOp ..|.makeFunc ..|.fieldAddr ..|.field ..|.extract ..|.makeSlice ..=>false
 | .load _ a=>!opsRef L [a]
 | .indexAddr _ x _=>!opsRef L [x]
 | .call c=>!opsRef L c.args.toList
 | .buildSlice _ _ ps=>!opsRef L (ps.toList.map (·.2))
 | .convert _ _ x=>!opsRef L [x]
 | .slice _ x _ _ _=>!opsRef L [x]
 | _=>true
def loudB (E:Env) (o:Oper):Bool :=
 match o.op with
 | .store ..|.alloc _|.box ..=>true
 | .call c=>match c.callee with
  | .builtin .append=>true
  | .builtin _=>false
  | .value (.func f)=>match look E.lib f with|some _=>false|none=>true
  | _=>true
 | .move _|.assign _|.pick ..|.build ..|.buildSlice ..|.load ..|.nilCheck _|.binOp ..|.unOp ..|.makeFunc ..|.fieldAddr ..|.field ..|.indexAddr ..|.index ..|.extract ..|.makeSlice ..|.lookup ..=>false
 | .slice _ _ lo hi _=>match lo,hi with|none,some _=>false|_,_=>false
 | .convert S D _=>match Nat.beq S D with|true=>true|false=>false
 | _=>true
def bitB (ms:List Nat) (i j:Nat):Bool:=match nth ms j with|some m=>Nat.testBit m i|none=>false
def chkPast (E:Env) (call:CallT) (ms:List Nat) (j:Nat) (op:Op) (L:VSlots) (v:V):List (Nat × Rows)→Prop
 | []=>True
 | (i,r)::past=>match bitB ms i j with
  | true=>chkPast E call ms j op L v past
  | false=>(xop E call true L r op fun v' r'=>v'=v∧r'=r)∧chkPast E call ms j op L v past
def chkPend (E:Env) (call:CallT) (ms:List Nat) (i:Nat) (r:Rows):List (Nat × Op × VSlots × V)→Prop
 | []=>True
 | (j,op,L,v)::pend=>match bitB ms j i with
  | true=>chkPend E call ms i r pend
  | false=>(xop E call true L r op fun v' r'=>v'=v∧r'=r)∧chkPend E call ms i r pend
def dOps (E:Env) (call:CallT) (ms:List Nat) (all:List Oper):Nat→List Oper→VSlots→Rows→List (Nat × Rows)→List (Nat × Op × VSlots × V)→(VSlots→Rows→Prop)→Prop
 | _,[],L,rows,_,_,K=>K L rows
 | j,o::rest,L,rows,past,pend,K =>
  let run (L1:VSlots):Prop:=match loudB E o with
   | false=>∃ v,(xop E call true L1 rows o.op fun v' r'=>v'=v∧r'=rows)∧match needsRows L1 o.op with
    | true=>chkPast E call ms j o.op L1 v past∧dOps E call ms all (j+1) rest (putV o.dst v L1) rows past ((j,o.op,L1,v)::pend) K
    | false=>dOps E call ms all (j+1) rest (putV o.dst v L1) rows past pend K
   | true=>∃ v rows',(xop E call true L1 rows o.op fun v' r'=>v'=v∧r'=rows')∧chkPend E call ms j rows' pend∧dOps E call ms all (j+1) rest (putV o.dst v L1) rows' ((j,rows)::past) pend K
  let skip (L1:VSlots):Prop:=dOps E call ms all (j+1) rest (putV o.dst (.tup []) L1) rows past pend K
  match o.guard with
  | none=>run L
  | some (i,want)=>match guardT all i with
   | none=>False
   | some t=>match look L t with
    | some (.lit b)=>match b,want with
     | true,true=>run L
     | false,false=>run L
     | true,false=>skip L
     | false,true=>skip L
    | some (.bool c)=>∀ b:Bool,c=b→match b,want with
     | true,true=>run ((t,.lit true)::L)
     | false,false=>run ((t,.lit false)::L)
     | true,false=>skip ((t,.lit true)::L)
     | false,true=>skip ((t,.lit false)::L)
    | some (.tup [])=>skip L
    | _=>False
def wpOpsR (E:Env) (call:CallT) (dr:Bool) (all:List Oper) (l:List Oper):VSlots→Rows→(VSlots→Rows→Prop)→Prop :=
 List.rec (motive:=fun _=>VSlots→Rows→(VSlots→Rows→Prop)→Prop) (fun L rows K=>K L rows) (fun o _ ih L rows K=>match o.guard with
  | none=>xop E call dr L rows o.op fun v rows'=>ih (putV o.dst v L) rows' K
  | some (i,want)=>match guardT all i with
   | none=>False
   | some t=>match look L t with
    | some (.lit b)=>match b,want with
     | true,true=>xop E call dr L rows o.op fun v rows'=>ih (putV o.dst v L) rows' K
     | false,false=>xop E call dr L rows o.op fun v rows'=>ih (putV o.dst v L) rows' K
     | true,false=>ih (putV o.dst (.tup []) L) rows K
     | false,true=>ih (putV o.dst (.tup []) L) rows K
    | some (.bool c)=>∀ b:Bool,c=b→match b,want with
     | true,true=>xop E call dr ((t,.lit true)::L) rows o.op fun v rows'=>ih (putV o.dst v ((t,.lit true)::L)) rows' K
     | false,false=>xop E call dr ((t,.lit false)::L) rows o.op fun v rows'=>ih (putV o.dst v ((t,.lit false)::L)) rows' K
     | true,false=>ih (putV o.dst (.tup []) ((t,.lit true)::L)) rows K
     | false,true=>ih (putV o.dst (.tup []) ((t,.lit false)::L)) rows K
    | some (.tup [])=>ih (putV o.dst (.tup []) L) rows K
    | _=>False) l
def dRun (E:Env) (call:CallT) (ms:List Nat) (o:Oper) (j:Nat) (rows:Rows) (past:List (Nat × Rows)) (pend:List (Nat × Op × VSlots × V)) (k:VSlots→Rows→List (Nat × Rows)→List (Nat × Op × VSlots × V)→Prop) (L1:VSlots):Prop:=match loudB E o with
 | false=>∃ v,(xop E call true L1 rows o.op fun v' r'=>v'=v∧r'=rows)∧match needsRows L1 o.op with
  | true=>chkPast E call ms j o.op L1 v past∧k (putV o.dst v L1) rows past ((j,o.op,L1,v)::pend)
  | false=>k (putV o.dst v L1) rows past pend
 | true=>∃ v rows',(xop E call true L1 rows o.op fun v' r'=>v'=v∧r'=rows')∧chkPend E call ms j rows' pend∧k (putV o.dst v L1) rows' ((j,rows)::past) pend
def dOpsR (E:Env) (call:CallT) (ms:List Nat) (all:List Oper) (j:Nat) (l:List Oper):VSlots→Rows→List (Nat × Rows)→List (Nat × Op × VSlots × V)→(VSlots→Rows→Prop)→Prop :=
 List.rec (motive:=fun _=>Nat→VSlots→Rows→List (Nat × Rows)→List (Nat × Op × VSlots × V)→(VSlots→Rows→Prop)→Prop) (fun _ L rows _ _ K=>K L rows)
  (fun o _ ih j L rows past pend K=>match o.guard with
   | none=>dRun E call ms o j rows past pend (fun L' r' p' q'=>ih (j+1) L' r' p' q' K) L
   | some (i,want)=>match guardT all i with
    | none=>False
    | some t=>match look L t with
     | some (.lit b)=>match b,want with
      | true,true=>dRun E call ms o j rows past pend (fun L' r' p' q'=>ih (j+1) L' r' p' q' K) L
      | false,false=>dRun E call ms o j rows past pend (fun L' r' p' q'=>ih (j+1) L' r' p' q' K) L
      | true,false=>ih (j+1) (putV o.dst (.tup []) L) rows past pend K
      | false,true=>ih (j+1) (putV o.dst (.tup []) L) rows past pend K
     | some (.bool c)=>∀ b:Bool,c=b→match b,want with
      | true,true=>dRun E call ms o j rows past pend (fun L' r' p' q'=>ih (j+1) L' r' p' q' K) ((t,.lit true)::L)
      | false,false=>dRun E call ms o j rows past pend (fun L' r' p' q'=>ih (j+1) L' r' p' q' K) ((t,.lit false)::L)
      | true,false=>ih (j+1) (putV o.dst (.tup []) ((t,.lit true)::L)) rows past pend K
      | false,true=>ih (j+1) (putV o.dst (.tup []) ((t,.lit false)::L)) rows past pend K
     | some (.tup [])=>ih (j+1) (putV o.dst (.tup []) L) rows past pend K
     | _=>False) l j
theorem wpOpsR_eq (E:Env) (call:CallT) (dr:Bool) (all:List Oper):∀ l,wpOpsR E call dr all l=wpOps E call dr all l
 | []=>rfl
 | o::l=>by
  have ih:=wpOpsR_eq E call dr all l
  funext L rows K
  unfold wpOps
  rw [←ih]
  rfl
theorem dOpsR_eq (E:Env) (call:CallT) (ms:List Nat) (all:List Oper):∀ l j,dOpsR E call ms all j l=dOps E call ms all j l
 | [],j=>rfl
 | o::l,j=>by
  have ih:=dOpsR_eq E call ms all l (j+1)
  funext L rows past pend K
  unfold dOps
  rw [←ih]
  rfl
def opT:List Operand→List Nat
 | []=>[]
 | .tmp t::r=>t::opT r
 | _::r=>opT r
def namesO (all:List Oper) (o:Oper):List Nat :=
 opT o.op.operands.toList++(match o.guard with|some (g,_)=>(guardT all g).toList|none=>[])
def apartB (all:List Oper) (x y:Oper):Bool :=
 (match x.dst with|some d=>!memN d (namesO all y) && (match y.dst with|some e=>!Nat.beq d e|none=>true)|none=>true) &&
 (match y.dst with|some d=>!memN d (namesO all x)|none=>true)
def maskOf (ms:List Nat) (o:Oper):Nat:=o.after.toList.foldl (fun s e=>if Region.binds .any e then s ||| 2 ^ e.on ||| (nth ms e.on).getD 0 else s) 0
def drawB (E:Env) (all:List Oper) (ms:List Nat):Bool :=
 Nat.beq ms.length all.length &&
 (List.range all.length).all fun j=>match nth all j with
  | none=>true
  | some o=>(o.after.toList.all fun e=>!Region.binds .any e || Nat.blt e.on j) && Nat.beq ((nth ms j).getD 0) (maskOf ms o) &&
   (List.range j).all fun i=>match nth all i with
    | none=>true
    | some x=>(apartB all x o && !(loudB E x && loudB E o)) || bitB ms i j
def drawsC (E:Env) (ds:List (Nat × List Nat)):Code→Bool
 | .region id ops true=>match look ds id with|some ms=>drawB E ops.toList ms|none=>true
 | .seq a b=>drawsC E ds a && drawsC E ds b
 | .cond _ a b=>drawsC E ds a && drawsC E ds b
 | .block _ b=>drawsC E ds b
 | .loop b=>drawsC E ds b
 | _=>true
inductive Ex where
 | normal|exit (id:Nat)|ret
abbrev KE:=Ex→VSlots→Rows→Prop
structure SIM (w0:Start) (m0 mb:Mem) (qb:Loc) (n:Nat) (L:VSlots) (rows:Rows) (a:Act) (w:World):Prop where
 ex:∃ (R m:Mem) (q:Loc),Sit w0 m0 R m w∧RowsOK R m q rows∧(∀ t v,look L t=some v→VR m q v (a.tmps.getD t undef))∧mb.Le m∧qb.Le q
 size:a.tmps.size=n
 defers:a.defers=[]
structure Wk (nb:Nat) (L:VSlots) (rows:Rows) (L':VSlots) (rows':Rows):Prop where
 sim:∀ w0 m0 mb (qb:Loc) n a w,(∀ r x,qb r=some x→r < nb)→SIM w0 m0 mb qb n L rows a w→SIM w0 m0 mb qb n L' rows' a w
inductive Loop (nb:Nat) (W:VSlots→Rows→KE→Prop) (L:VSlots) (rows:Rows) (K:KE):Prop
 | mk {σ:Type} (S : σ→VSlots) (Rw : σ→Rows) (I : σ→Prop) (μ : σ→Nat) (s0 : σ) (h1:Wk nb L rows (S s0) (Rw s0)) (h2:I s0)
  (h3:∀ s,I s→W (S s) (Rw s) fun e L' rows'=>match e with
   | .normal=>∃ s',Wk nb L' rows' (S s') (Rw s')∧I s'∧μ s' < μ s
   | .exit id=>K (.exit id) L' rows'
   | .ret=>K .ret L' rows')
def wpReg (E:Env) (call:CallT) (ds:List (Nat × List Nat)) (id:Nat) (ops:Array Oper) (dr:Bool) (L:VSlots) (rows:Rows) (K:VSlots→Rows→Prop):Prop :=
 match dr with
 | false=>wpOpsR E call false ops.toList ops.toList L rows K
 | true=>match look ds id with
  | some ms=>dOpsR E call ms ops.toList 0 ops.toList L rows [] [] K
  | none=>False
def flat1:V→Bool
 | .int ..|.bool _|.lit _|.str _=>true
 | _=>false
def viewV (rows:Rows) (v v':V):Prop :=
 match v with
 | .own r=>match nth rows r with
  | some (.row _ els)=>match v' with
   | .sl enc l=>els=l.map enc
   | _=>False
  | _=>False
 | .ptr r 0 o=>match nth rows r with
  | some (.bx _ cells)=>allPure cells=true∧v'=.elt (.agg cells) o
  | _=>False
 | v=>v.pure=true∧v'=v
def viewSlots (rows:Rows) (L:VSlots):VSlots→Prop
 | []=>True
 | (t,v')::r=>(match look L t with|some v=>viewV rows v v'|none=>False)∧viewSlots rows L r
def noD (t:Nat):List Oper→Bool
 | []=>true
 | o::r=>match o.dst with
  | some d=>match Nat.beq d t with|true=>false|false=>noD t r
  | none=>noD t r
def backSlots (ops:List Oper) (L L':VSlots):VSlots→Prop
 | []=>True
 | (t,v)::r=>(match noD t ops with
  | true=>look L t=some v
  | false=>match look L' t with|some v0=>flat1 v0=true∧v=v0|none=>False)∧backSlots ops L L' r
def dstsL (n:Nat):List Oper→Bool
 | []=>true
 | o::r=>(match o.dst with|some d=>Nat.blt d n|none=>true) && dstsL n r
inductive Borrow (P:Program) (c:Code) (ops:List Oper) (W:VSlots→Rows→(VSlots→Rows→Prop)→Prop) (L:VSlots) (rows:Rows) (K:VSlots→Rows→Prop):Prop
 | mk (Lb:VSlots) (hv:viewSlots rows L Lb) (h:W Lb [] fun L' rows'=>∃ L2,backSlots ops L L' L2∧K L2 rows)
 | sem (h : ∀ (w0 : Start) (m0 mb : Mem) (qb : Loc) (n : Nat) (a : Act) (w : World) (Q : Exit → Act → World → Prop), dstsL n ops = true → SIM w0 m0 mb qb n L rows a w →
     (∀ L' rows' a' w',K L' rows'→SIM w0 m0 mb qb n L' rows' a' w'→Q .normal a' w')→c.wp P Q a w)
structure WkE (nb:Nat) (L:VSlots) (rows:Rows) (G:VSlots→Rows→Prop):Prop where
 sim:∀ w0 m0 mb (qb:Loc) n a w,(∀ r x,qb r=some x→r < nb)→SIM w0 m0 mb qb n L rows a w→∃ L' rows',G L' rows'∧SIM w0 m0 mb qb n L' rows' a w
inductive Join (nb:Nat) (L:VSlots) (A:(VSlots→Rows→Prop)→Prop) (B:VSlots→Rows→Prop):Prop
 | mk {σ:Type} (S : σ→VSlots) (Rw : σ→Rows) (I : σ→Prop) (h1:A fun L' rows'=>∃ s,Wk nb L' rows' (S s) (Rw s)∧I s) (h2:∀ s,I s→B (S s) (Rw s))
 | mkE (h:A fun L' rows'=>WkE nb L' rows' B)
def hookAt (hooks:List Nat):Code→Bool
 | .region id _ _=>memN id hooks
 | .seq a _=>hookAt hooks a
 | .block _ b=>hookAt hooks b
 | .cond _ x _=>hookAt hooks x
 | _=>false
def wpC (E:Env) (call:CallT) (ds:List (Nat × List Nat)) (hooks:List Nat) (nb:Nat):Code→VSlots→Rows→KE→Prop
 | .skip,L,rows,K=>K .normal L rows
 | .region id ops dr,L,rows,K=>match memN (Nat.add 100000 id) hooks with
  | false=>wpReg E call ds id ops dr L rows fun L' rows'=>K .normal L' rows'
  | true=>Borrow E.P (.region id ops dr) ops.toList (wpReg E call ds id ops dr) L rows fun L' rows'=>K .normal L' rows'
 | .seq a b,L,rows,K=>match hookAt hooks b with
  | false=>wpC E call ds hooks nb a L rows fun e L' rows'=>match e with
   | .normal=>wpC E call ds hooks nb b L' rows' K
   | .exit id=>K (.exit id) L' rows'
   | .ret=>K .ret L' rows'
  | true=>Join nb L (fun N=>wpC E call ds hooks nb a L rows fun e L' rows'=>match e with
   | .normal=>N L' rows'
   | .exit id=>K (.exit id) L' rows'
   | .ret=>K .ret L' rows') fun L' rows'=>wpC E call ds hooks nb b L' rows' K
 | .cond c x y,L,rows,K=>evO L c fun v=>match v with
  | .lit true=>wpC E call ds hooks nb x L rows K
  | .lit false=>wpC E call ds hooks nb y L rows K
  | .bool t=>∀ b:Bool,t=b→match b with|true=>wpC E call ds hooks nb x L rows K|false=>wpC E call ds hooks nb y L rows K
  | _=>False
 | .block id b,L,rows,K=>wpC E call ds hooks nb b L rows fun e L' rows'=>match e with
  | .normal=>K .normal L' rows'
  | .exit j=>match Nat.beq j id with|true=>K .normal L' rows'|false=>K (.exit j) L' rows'
  | .ret=>K .ret L' rows'
 | .loop b,L,rows,K=>Loop nb (wpC E call ds hooks nb b) L rows K
 | .exit id,L,rows,K=>K (.exit id) L rows
 | .ret,L,rows,K=>K .ret L rows
 | _,_,_,_=>False
def wpCR (E:Env) (call:CallT) (ds:List (Nat × List Nat)) (hooks:List Nat) (nb:Nat) (c:Code):VSlots→Rows→KE→Prop :=
 Code.rec (motive:=fun _=>VSlots→Rows→KE→Prop)
  (fun L rows K=>K .normal L rows)
  (fun id ops dr L rows K=>match memN (Nat.add 100000 id) hooks with
   | false=>wpReg E call ds id ops dr L rows fun L' rows'=>K .normal L' rows'
   | true=>Borrow E.P (.region id ops dr) ops.toList (wpReg E call ds id ops dr) L rows fun L' rows'=>K .normal L' rows')
  (fun _ b iha ihb L rows K=>match hookAt hooks b with
   | false=>iha L rows fun e L' rows'=>match e with
    | .normal=>ihb L' rows' K
    | .exit id=>K (.exit id) L' rows'
    | .ret=>K .ret L' rows'
   | true=>Join nb L (fun N=>iha L rows fun e L' rows'=>match e with
    | .normal=>N L' rows'
    | .exit id=>K (.exit id) L' rows'
    | .ret=>K .ret L' rows') fun L' rows'=>ihb L' rows' K)
  (fun c _ _ ihx ihy L rows K=>evO L c fun v=>match v with
   | .lit true=>ihx L rows K
   | .lit false=>ihy L rows K
   | .bool t=>∀ b:Bool,t=b→match b with|true=>ihx L rows K|false=>ihy L rows K
   | _=>False)
  (fun id _ ih L rows K=>ih L rows fun e L' rows'=>match e with
   | .normal=>K .normal L' rows'
   | .exit j=>match Nat.beq j id with|true=>K .normal L' rows'|false=>K (.exit j) L' rows'
   | .ret=>K .ret L' rows')
  (fun _ ih L rows K=>Loop nb ih L rows K)
  (fun _ _ _ _ _ _ _ _ _=>False)
  (fun id L rows K=>K (.exit id) L rows)
  (fun _ _ _ _ _=>False)
  (fun _ _ _ _=>False)
  (fun _ _ _ _=>False)
  (fun L rows K=>K .ret L rows)
  (fun _ _ _ _=>False) c
theorem wpCR_eq (E:Env) (call:CallT) (ds:List (Nat × List Nat)) (hooks:List Nat) (nb:Nat):∀ c,wpCR E call ds hooks nb c=wpC E call ds hooks nb c
 | .skip=>rfl
 | .region ..=>rfl
 | .seq a b=>by
  have e1:=wpCR_eq E call ds hooks nb a
  have e2:=wpCR_eq E call ds hooks nb b
  funext L rows K
  unfold wpC
  rw [←e1,←e2]
  rfl
 | .cond c a b=>by
  have e1:=wpCR_eq E call ds hooks nb a
  have e2:=wpCR_eq E call ds hooks nb b
  funext L rows K
  unfold wpC
  rw [←e1,←e2]
  rfl
 | .block id a=>by
  have e1:=wpCR_eq E call ds hooks nb a
  funext L rows K
  unfold wpC
  rw [←e1]
  rfl
 | .loop a=>by
  have e1:=wpCR_eq E call ds hooks nb a
  funext L rows K
  unfold wpC
  rw [←e1]
  rfl
 | .rangeFunc ..=>rfl
 | .exit _=>rfl
 | .scope _=>rfl
 | .label _=>rfl
 | .goto _=>rfl
 | .ret=>rfl
 | .refuse _=>rfl
def slotsV:Nat→List V→VSlots
 | _,[]=>[]
 | i,v::r=>(i,v)::slotsV (i+1) r
def resK (E:Env):List ResultVar→VSlots→Rows→(List V→Prop)→Prop
 | [],_,_,k=>k []
 | .tmp t::r,L,rows,k=>match look L t with|some v=>resK E r L rows fun vs=>k (v::vs)|none=>False
 | .cell c T::r,L,rows,k=>match look L c with|some a=>loadO E T a rows fun v=>resK E r L rows fun vs=>k (v::vs)|none=>False
def pack:List V→V
 | [v]=>v
 | vs=>.tup vs
def wpFn (E:Env) (call:CallT) (fi:FnI) (args:List V) (rows:Rows) (k:V→Rows→Prop):Prop :=
 match fi.fn.body,Nat.ble args.length fi.fn.ntmps with
 | none,_=>False
 | _,false=>False
 | some c,true=>wpCR E call fi.draws fi.hooks rows.length c (slotsV 0 args) rows fun e L rows'=>match e with
  | .normal=>resK E fi.fn.results.toList L rows' fun vs=>k (pack vs) rows'
  | .ret=>resK E fi.fn.results.toList L rows' fun vs=>k (pack vs) rows'
  | .exit _=>False
abbrev IxK:=Nat→(Nat→Prop)→Prop
def posK (r:Nat) (k:Nat→Prop) (l:List Nat):Nat→Prop :=
 List.rec (motive:=fun _=>Nat→Prop) (fun _=>False) (fun x _ ih i=>match Nat.beq x r with
  | true=>numK i k
  | false=>ih (i+1)) l
def reA (F:IxK) (v:V) (k:V→Prop):Prop:=match v with
 | .own r=>F r fun r'=>k (.own r')
 | .ptr r i o=>F r fun r'=>k (.ptr r' i o)
 | .map r=>F r fun r'=>k (.map r')
 | .agg _=>False
 | .tup _=>False
 | .fn f cs=>(match cs with|[]=>k (.fn f [])|_::_=>False)
 | .elt x o=>k (.elt x o)
 | .int q n=>k (.int q n)
 | .bool b=>k (.bool b)
 | .lit b=>k (.lit b)
 | .str s=>k (.str s)
 | .sl enc l=>k (.sl enc l)
 | .nil=>k .nil
 | .raw u=>k (.raw u)
def reL (g:V→(V→Prop)→Prop) (vs:List V):(List V→Prop)→Prop :=
 List.rec (motive:=fun _=>(List V→Prop)→Prop) (fun k=>k []) (fun v _ ih k=>g v fun v'=>ih fun r'=>k (v'::r')) vs
def reF (F:IxK) (v:V) (k:V→Prop):Prop:=match v with
 | .fn f cs=>reL (reA F) cs fun cs'=>k (.fn f cs')
 | v=>reA F v k
def reV (F:IxK) (v:V) (k:V→Prop):Prop:=match v with
 | .agg cs=>reL (reF F) cs fun cs'=>k (.agg cs')
 | v=>reF F v k
def reT (F:IxK) (v:V) (k:V→Prop):Prop:=match v with
 | .tup cs=>reL (reV F) cs fun cs'=>k (.tup cs')
 | v=>reV F v k
def reRow (F:IxK) (x:Row) (k:Row→Prop):Prop:=match x with
 | .bx t cs=>reL (reF F) cs fun cs'=>k (.bx t cs')
 | .rowq _ _=>False
 | .pack _ _=>False
 | x=>k x
def reRows (F:IxK) (rs:Rows):(Rows→Prop)→Prop :=
 List.rec (motive:=fun _=>(Rows→Prop)→Prop) (fun k=>k []) (fun x _ ih k=>reRow F x fun x'=>ih fun r'=>k (x'::r')) rs
def addN (acc:List Nat):V→List Nat
 | .own r=>match memN r acc with|true=>acc|false=>acc++[r]
 | .ptr r _ _=>match memN r acc with|true=>acc|false=>acc++[r]
 | .map r=>match memN r acc with|true=>acc|false=>acc++[r]
 | _=>acc
noncomputable def addL (g:List Nat→V→List Nat) (vs:List V):List Nat→List Nat :=
 List.rec (motive:=fun _=>List Nat→List Nat) (fun acc=>acc) (fun v _ ih acc=>ih (g acc v)) vs
noncomputable def addF (acc:List Nat) (v:V):List Nat:=match v with|.fn _ cs=>addL addN cs acc|v=>addN acc v
noncomputable def addV (acc:List Nat) (v:V):List Nat:=match v with|.agg cs=>addL addF cs acc|v=>addF acc v
noncomputable def addR (rows:Rows) (l:List Nat):List Nat→List Nat :=
 List.rec (motive:=fun _=>List Nat→List Nat) (fun acc=>acc) (fun r _ ih acc=>match nth rows r with
  | some (.bx _ cs)=>ih (addL addF cs acc)
  | _=>ih acc) l
def listK (l:List Nat):(List Nat→Prop)→Prop :=
 List.rec (motive:=fun _=>(List Nat→Prop)→Prop) (fun k=>k []) (fun x _ ih k=>ih fun r=>k (x::r)) l
def reachK (args:List V) (rows:Rows) (k:List Nat→Prop):Prop :=
 listK (addL addV args []) fun a=>listK (addR rows a a) fun b=>listK (addR rows b b) fun c=>listK (addR rows c c) k
noncomputable def nodupB (l:List Nat):Bool :=
 List.rec (motive:=fun _=>Bool) true (fun x r ih=>match memN x r with|true=>false|false=>ih) l
def selRowsK (rows:Rows) (sel:List Nat):(Rows→Prop)→Prop :=
 List.rec (motive:=fun _=>(Rows→Prop)→Prop) (fun k=>k []) (fun r _ ih k=>match nth rows r with
  | some x=>ih fun rs=>k (x::rs)
  | none=>False) sel
def mergeK (sel:List Nat):Rows→Rows→(Rows→Prop)→Prop :=
 List.rec (motive:=fun _=>Rows→Rows→(Rows→Prop)→Prop) (fun ys rows k=>appK rows ys k) (fun r _ ih ys rows k=>match ys with
  | []=>False
  | y::ys=>setK rows r y fun rows'=>ih ys rows' k) sel
def backF (sel:List Nat) (n:Nat):IxK:=fun i k=>match nth sel i with
 | some r=>k r
 | none=>numK (Nat.add n (Nat.sub i sel.length)) k
def procO0 (T:PSpec) (args:List V) (rows:Rows) (k:V→Rows→Prop):Prop :=
 reachK args rows fun sel=>match nodupB sel with
  | false=>False
  | true=>reL (reV fun r k=>posK r k sel 0) args fun args'=>selRowsK rows sel fun rs=>reRows (fun r k=>posK r k sel 0) rs fun rows0 =>
   T args' rows0 fun v rows1=>reT (backF sel rows.length) v fun v'=>reRows (backF sel rows.length) rows1 fun rows1'=>mergeK sel rows1' rows fun rows'=>k v' rows'
def procO (T:PSpec) (args:List V) (rows:Rows) (k:V→Rows→Prop):Prop:=fzDS args rows fun as rows'=>procO0 T as rows' k
def callN (E:Env):Nat→CallT
 | n,f,args,rows,k=>match look E.lib f with
  | some T=>fzLA args rows fun as rows'=>T as fun r=>k r rows'
  | none=>match look E.prims f with
   | some T=>procO T args rows k
   | none=>match n with
    | 0=>False
    | n+1=>match look E.fns f with
     | some fi=>(match fi.spec with
     | some T=>T args rows k
     | none=>match fi.frz with
     | false=>wpFn E (callN E n) fi args rows k
     | true=>fzS args rows fun as rows'=>wpFn E (callN E n) fi as rows' k)
     | none=>False
def dstsC (n:Nat):Code→Bool
 | .region _ ops _=>dstsL n ops.toList
 | .seq a b=>dstsC n a && dstsC n b
 | .cond _ a b=>dstsC n a && dstsC n b
 | .block _ b=>dstsC n b
 | .loop b=>dstsC n b
 | _=>true
def Pure (P:Program) (f:FuncId) (T:Spec):Prop :=
 ∀ (w:World) (m:Mem) (args:List V) (us:List Value) (K:V→Prop),Sub m w→Glob.mem.Le m→(args.length=us.length∧∀ (i:Nat) v u,args[i]?=some v→us[i]?=some u→VR m noLoc v u)→T args K →
  Calls P f us.toArray w fun e w'=>∃ u r,e=.returned u∧Bel [] w w'∧K r∧VR (grow m w w') noLoc r u
end Gv
end PartV2
section PartV3
namespace Gv
open Go Go.RowKit Gw
variable [Glob]
theorem nth_eq.{u} {α:Type u}:∀ (l:List α) (i:Nat),nth l i=l[i]?
 | [],i=>by simp [nth]
 | x::r,0=>by simp [nth]
 | x::r,i+1=>by simp [nth,nth_eq r i]
theorem dropL_eq.{u} {α:Type u}:∀ (n:Nat) (l:List α),dropL n l=l.drop n
 | 0,l=>by simp [dropL]
 | n+1,[]=>by simp [dropL]
 | n+1,x::r=>by simp [dropL,dropL_eq n r]
theorem numK_eq (n:Nat) (k:Nat→Prop) (h:numK n k):k n:=by
 unfold numK at h
 split at h<;>exact h
theorem takeK_ok:∀ (n:Nat) (l:List V) (k:List V→Prop),takeK n l k→n≤l.length∧k (l.take n)
 | 0,l,k,h=>⟨by omega,by simpa [takeK] using h⟩
 | n+1,[],k,h=>by simp [takeK] at h
 | n+1,v::r,k,h=>by
  obtain ⟨h1,h2⟩:=takeK_ok n r _ h
  exact ⟨by simp;omega,by simpa using h2⟩
def putLL (l:List V) (o:Nat) (vs:List V):List V:=l.take o++vs++l.drop (o+vs.length)
theorem storeK_ok:∀ (l:List V) (o:Nat) (vs:List V) (k:List V→Prop),storeK l o vs k→o+vs.length≤l.length∧k (putLL l o vs)
 | c::r,n+1,vs,k,h=>by
  obtain ⟨h1,h2⟩:=storeK_ok r n vs _ h
  refine ⟨by simp;omega,?_⟩
  have:putLL (c::r) (n+1) vs=c::putLL r n vs:=by
   unfold putLL;rw [show n+1+vs.length=(n+vs.length)+1 by omega];simp
  rw [this];exact h2
 | [],0,[],k,h=>⟨by simp,by simpa [storeK,putLL] using h⟩
 | c::r,0,[],k,h=>⟨by simp,by simpa [storeK,putLL] using h⟩
 | c::r,0,v::vs,k,h=>by
  obtain ⟨h1,h2⟩:=storeK_ok r 0 vs _ h
  refine ⟨by simp at *;omega,?_⟩
  simpa [putLL] using h2
 | [],n+1,vs,k,h=>by simp [storeK] at h
 | [],0,v::vs,k,h=>by simp [storeK] at h
theorem setK_ok:∀ (l:Rows) (i:Nat) (y:Row) (k:Rows→Prop),setK l i y k→i < l.length∧k (l.set i y)
 | x::r,0,y,k,h=>⟨by simp,by simpa [setK] using h⟩
 | x::r,n+1,y,k,h=>by
  obtain ⟨h1,h2⟩:=setK_ok r n y _ h
  exact ⟨by simp;omega,by simpa using h2⟩
 | [],n,y,k,h=>by simp [setK] at h
theorem pushK_ok:∀ (l:Rows) (n:Nat) (y:Row) (k:Nat→Rows→Prop),pushK n l y k→k (n+l.length) (l++[y])
 | [],n,y,k,h=>numK_eq n (fun n=>k n [y]) h
 | x::r,n,y,k,h=>by
  have:=pushK_ok r (n+1) y _ h
  simpa [Nat.add_assoc,Nat.add_comm 1] using this
theorem appK_ok.{u} {α:Type u}:∀ (l l':List α) (k:List α→Prop),appK l l' k→k (l++l')
 | [],l',k,h=>h
 | x::r,l',k,h=>by simpa using appK_ok r l' _ h
theorem allFlat_ok:∀ (l:List V),allFlat l=true→∀ v∈l,v.flat=true
 | [],_,v,hv=>by cases hv
 | x::r,h,v,hv=>by
  unfold allFlat at h
  cases hx:x.flat with
  | false=>rw [hx] at h;cases h
  | true =>
   rw [hx] at h
   rcases List.mem_cons.1 hv with rfl|hv
   ·exact hx
   ·exact allFlat_ok r h v hv
theorem allPure_ok:∀ (l:List V),allPure l=true→∀ v∈l,v.pure=true
 | [],_,v,hv=>by cases hv
 | x::r,h,v,hv=>by
  unfold allPure at h
  cases hx:x.pure with
  | false=>rw [hx] at h;cases h
  | true =>
   rw [hx] at h
   rcases List.mem_cons.1 hv with rfl|hv
   ·exact hx
   ·exact allPure_ok r h v hv
structure VRL (m:Mem) (q:Loc) (vs:List V) (us:List Value):Prop where
 len:vs.length=us.length
 el:∀ (i:Nat) v u,vs[i]?=some v→us[i]?=some u→VR m q v u
theorem VRL.nil {m:Mem} {q:Loc}:VRL m q [] []:=⟨rfl,fun i v u h=>by simp at h⟩
theorem VRL.cons {m:Mem} {q:Loc} {v:V} {u:Value} {vs:List V} {us:List Value} (h:VR m q v u) (k:VRL m q vs us):VRL m q (v::vs) (u::us) :=
 ⟨by simp [k.len],fun i v' u' h1 h2=>by
  cases i with
  | zero=>simp at h1 h2;subst h1 h2;exact h
  | succ i=>exact k.el i v' u' (by simpa using h1) (by simpa using h2)⟩
theorem VRL.up {m m':Mem} {q q':Loc} {vs:List V} {us:List Value} (h:VRL m q vs us) (hm:m.Le m') (hq:q.Le q'):VRL m' q' vs us:=⟨h.len,fun i v u h1 h2=>(h.el i v u h1 h2).up hm hq⟩
theorem VRL.app {m:Mem} {q:Loc} {vs ws:List V} {us xs:List Value} (h:VRL m q vs us) (k:VRL m q ws xs):VRL m q (vs++ws) (us++xs):=by
 refine ⟨by simp [h.len,k.len],fun i v u h1 h2=>?_⟩
 by_cases hi:i < vs.length
 ·rw [List.getElem?_append_left hi] at h1
  rw [List.getElem?_append_left (by rw [←h.len];exact hi)] at h2
  exact h.el i v u h1 h2
 ·rw [List.getElem?_append_right (by omega)] at h1
  rw [List.getElem?_append_right (by rw [←h.len];omega),←h.len] at h2
  exact k.el _ v u h1 h2
section
variable {m:Mem} {q:Loc}
theorem const1_ok {c:Value} {v:V} (h:const1 c=some v):VR m q v c:=by
 unfold const1 at h
 split at h
 ·cases h;exact .int
 ·cases h;exact .lit
 ·rename_i s
  split at h
  ·rename_i hb
   cases h
   have:=VR.str (m:=m) (q:=q) (s:=s.data.toList) (by simpa [Nat.ble_eq] using hb)
   have e:Gw.str s.data.toList=.string s:=by simp [Gw.str]
   rw [e] at this;exact this
  ·cases h
 ·cases h;exact .nil
 ·cases h
 ·cases h
 ·cases h;exact .raw
theorem constL_ok:∀ (cs:List Value) (k:List V→Prop),constL cs k→∃ vs,k vs∧VRL m q vs cs
 | [],k,h=>⟨[],h,VRL.nil⟩
 | c::r,k,h=>by
  unfold constL at h
  cases hc:const1 c with
  | none=>rw [hc] at h;exact h.elim
  | some x =>
   rw [hc] at h
   obtain ⟨vs,h1,h2⟩:=constL_ok r _ h
   exact ⟨x::vs,h1,VRL.cons (const1_ok hc) h2⟩
theorem constL_flat:∀ (cs:List Value) (k:List V→Prop),constL cs k→∃ vs,k vs∧VRL m q vs cs∧∀ u∈cs,u.oneCell'=true
 | [],k,h=>⟨[],h,VRL.nil,fun u hu=>by cases hu⟩
 | c::r,k,h=>by
  unfold constL at h
  cases hc:const1 c with
  | none=>rw [hc] at h;exact h.elim
  | some x =>
   rw [hc] at h
   obtain ⟨vs,h1,h2,h3⟩:=constL_flat r _ h
   refine ⟨x::vs,h1,VRL.cons (const1_ok hc) h2,fun u hu=>?_⟩
   rcases List.mem_cons.1 hu with rfl|hu
   ·unfold const1 at hc
    split at hc<;>first|rfl|(cases hc;done)|skip
    rename_i h1 h2 h3 h4 h5 h6
    cases u<;>first|rfl|(exact absurd rfl (h5 _))|(exact absurd rfl (h6 _))
   ·exact h3 u hu
theorem constK_ok {c:Value} {k:V→Prop} (h:constK c k):∃ v,k v∧VR m q v c:=by
 unfold constK at h
 split at h
 ·rename_i cs
  obtain ⟨vs,h1,h2⟩:=constL_ok (m:=m) (q:=q) _ _ h
  refine ⟨_,h1,?_⟩
  have:=VR.agg h2.len h2.el
  simpa using this
 ·split at h
  ·rename_i hc;exact ⟨_,h,const1_ok hc⟩
  ·exact h.elim
def SlotsR (m:Mem) (q:Loc) (L:VSlots) (a:Act):Prop:=∀ t v,look L t=some v→VR m q v (a.tmps.getD t undef)
theorem SlotsR.up {m':Mem} {q':Loc} {L:VSlots} {a:Act} (h:SlotsR m q L a) (hm:m.Le m') (hq:q.Le q'):SlotsR m' q' L a:=fun t v e=>(h t v e).up hm hq
theorem SlotsR.put {L:VSlots} {a:Act} {d:Nat} {v:V} {u:Value} (h:SlotsR m q L a) (hd:d < a.tmps.size) (hv:VR m q v u):SlotsR m q ((d,v)::L) (a.put (some d) u):=fun t x e=>by
 unfold look at e
 split at e
 ·rename_i e1
  have e2:d=t:=Nat.eq_of_beq_eq_true e1
  subst e2
  cases e
  simpa [Act.put,Array.getD_eq_getD_getElem?,hd] using hv
 ·rename_i e1
  have e2:d≠t:=fun h=>by subst h;simp at e1
  have:=h t x e
  simpa [Act.put,Array.getD_eq_getD_getElem?,e2] using this
theorem evO_ok {L:VSlots} {a:Act} {x:Operand} {k:V→Prop} (S:SlotsR m q L a) (h:evO L x k):∃ v,k v∧VR m q v (a.eval x):=by
 unfold evO at h
 split at h
 ·rename_i t
  split at h
  ·rename_i v hv;exact ⟨v,h,S _ _ hv⟩
  ·exact h.elim
 ·exact constK_ok h
 ·rename_i f
  exact ⟨_,h,VR.fn (cs:=[]) (us:=[]) rfl fun i v u h=>by simp at h⟩
 ·exact h.elim
theorem evL_ok {L:VSlots} {a:Act} (S:SlotsR m q L a):∀ (xs:List Operand) (k:List V→Prop),evL L xs k→∃ vs,k vs∧VRL m q vs (xs.map a.eval)
 | [],k,h=>⟨[],h,VRL.nil⟩
 | x::r,k,h=>by
  obtain ⟨v,h1,h2⟩:=evO_ok S h
  obtain ⟨vs,h3,h4⟩:=evL_ok S r _ h1
  exact ⟨v::vs,h3,VRL.cons h2 h4⟩
end
structure Cf (w0:Start) (m0:Mem) (rows:Rows) (R m:Mem) (q:Loc) (w:World):Prop where
 sit:Sit w0 m0 R m w
 rok:RowsOK R m q rows
def After (w0:Start) (m0 m:Mem) (q:Loc) (K:V→Rows→Prop) (u:Value) (w':World):Prop :=
 ∃ v rows' R' m' q',K v rows'∧Cf w0 m0 rows' R' m' q' w'∧m.Le m'∧q.Le q'∧VR m' q' v u
def PrimOK (P:Program) (f:FuncId) (T:PSpec):Prop :=
 ∀ w0 m0 args rows k R m q w us,Cf w0 m0 rows R m q w→VRL m q args us→T args rows k→callable P f=true∧Calls P f us.toArray w fun e w'=>∃ u,e=.returned u∧After w0 m0 m q k u w'
def kindB:TK→TypeDesc→Bool
 | .other,_=>true
 | .bool,.bool=>true
 | .str,.string=>true
 | .int k,.int k'=>k == k'
 | .slice E,.slice E'=>Nat.beq E E'
 | .struct fs,.struct fields=>fields.toList.map (fun f=>(f.type,f.offset)) == fs
 | .array n E,.array n' E'=>Nat.beq n n' && Nat.beq E E'
 | .map K E,.map K' E'=>Nat.beq K K' && Nat.beq E E'
 | .iface,.interface _=>true
 | _,_=>false
structure FnOK (E:Env) (f:FuncId) (fi:FnI):Prop where
 fn:E.P.funcs[f]?=some fi.fn
 dsts:(match fi.fn.body with|some c=>dstsC fi.fn.ntmps c|none=>true)=true
 draws:(match fi.fn.body with|some c=>drawsC E fi.draws c|none=>true)=true
structure EnvOK (E:Env):Prop where
 mixed:E.P.follows .mixedOrders=true
 tys:∀ T i,look E.tys T=some i→tyOf E.P T=some (i.zero,i.size,i.bytes,i.agg)∧i.zero.cells.size=i.size∧∃ d,E.P.underlying T=some d∧kindB i.kind d=true
 lib:∀ f T,look E.lib f=some T→callable E.P f=true∧Pure E.P f T
 fns:∀ f fi,look E.fns f=some fi→callable E.P f=true∧((fi.spec=none∧FnOK E f fi)∨∃ T,fi.spec=some T∧PrimOK E.P f T)
 prims:∀ f T,look E.prims f=some T→PrimOK E.P f T
 eqs:∀ T ks,look E.eqs T=some ks→ks=[]∨flatB E.P T ks=true
theorem look_mem.{u} {α:Type u}:∀ {l:List (Nat × α)} {t:Nat} {v : α},look l t=some v→(t,v)∈l
 | [],t,v,h=>by simp [look] at h
 | (k,x)::r,t,v,h=>by
  unfold look at h
  split at h
  ·rename_i e
   have:k=t:=Nat.eq_of_beq_eq_true e
   subst this;cases h;simp
  ·exact List.mem_cons_of_mem _ (look_mem h)
theorem tys_ok {P:Program} {tys:List (Nat × TI)} (h:tys.map (fun p => (tyOf P p.1, (Nat.beq p.2.zero.cells.size p.2.size, (P.underlying p.1).map (kindB p.2.kind))))=tys.map (fun p => (some (p.2.zero, p.2.size, p.2.bytes, p.2.agg), (true, some true)))) :
  ∀ T i,look tys T=some i→tyOf P T=some (i.zero,i.size,i.bytes,i.agg)∧i.zero.cells.size=i.size∧∃ d,P.underlying T=some d∧kindB i.kind d=true:=fun T i hl=>by
 have hm:=look_mem hl
 have:=List.map_inj_left.1 h (T,i) hm
 simp only [Prod.mk.injEq,Option.map_eq_some_iff] at this
 exact ⟨this.1,Nat.eq_of_beq_eq_true this.2.1,this.2.2⟩
theorem tiK_ok {E:Env} (H:EnvOK E) {T:Nat} {k:TI→Prop} (h:tiK E T k):∃ i,k i∧tyOf E.P T=some (i.zero,i.size,i.bytes,i.agg)∧i.zero.cells.size=i.size∧∃ d,E.P.underlying T=some d∧kindB i.kind d=true:=by
 unfold tiK at h
 split at h
 ·rename_i i hi;exact ⟨i,h,H.tys T i hi⟩
 ·exact h.elim
theorem kind_slice {E:Nat} {d:TypeDesc} (h:kindB (.slice E) d=true):d=.slice E:=by
 cases d<;>first|(simp [kindB] at h;done)|(have:=Nat.eq_of_beq_eq_true h;subst this;rfl)
theorem kind_str {d:TypeDesc} (h:kindB .str d=true):d=.string:=by cases d<;>first|rfl|simp [kindB] at h
theorem kind_bool {d:TypeDesc} (h:kindB .bool d=true):d=.bool:=by cases d<;>first|rfl|simp [kindB] at h
theorem kind_int {k:IntKind} {d:TypeDesc} (h:kindB (.int k) d=true):d=.int k:=by
 cases d<;>first|(simp [kindB] at h;done)|skip
 simp [kindB] at h;subst h;rfl
theorem kind_iface {d:TypeDesc} (h:kindB .iface d=true):∃ ms,d=.interface ms:=by cases d<;>first|exact ⟨_,rfl⟩|simp [kindB] at h
theorem kind_array {n E:Nat} {d:TypeDesc} (h:kindB (.array n E) d=true):d=.array n E:=by
 cases d<;>first|(simp [kindB] at h;done)|skip
 simp only [kindB,Bool.and_eq_true] at h
 have h1:=Nat.eq_of_beq_eq_true h.1
 have h2:=Nat.eq_of_beq_eq_true h.2
 subst h1 h2
 rfl
theorem kind_struct {fs:List (Nat × Nat)} {d:TypeDesc} (h:kindB (.struct fs) d=true):∃ fields:Array Field,d=.struct fields∧fields.toList.map (fun f=>(f.type,f.offset))=fs:=by
 cases d<;>first|(simp [kindB] at h;done)|skip
 rename_i fields
 exact ⟨fields,rfl,by simpa [kindB] using h⟩
section
variable {w0:Start} {w w':World} {m0 R m:Mem} {q:Loc} {rows:Rows} {K:V→Rows→Prop} {u:Value}
theorem After.same (C:Cf w0 m0 rows R m q w) {v:V} (hK:K v rows) (hv:VR m q v u):After w0 m0 m q K u w:=⟨v,rows,R,m,q,hK,C,Mem.Le.refl m,Loc.Le.refl q,hv⟩
theorem After.mono {K':V→Rows→Prop} (h:After w0 m0 m q K u w') (hK:∀ v r,K v r→K' v r):After w0 m0 m q K' u w' :=
 let ⟨v,rows',R',m',q',h1,h2,h3,h4,h5⟩:=h;⟨v,rows',R',m',q',hK _ _ h1,h2,h3,h4,h5⟩
theorem Cf.step (C:Cf w0 m0 rows R m q w) (h:Bel [] w w'):Cf w0 m0 rows R m q w':=⟨C.sit.step h,C.rok⟩
theorem Cf.grow (C:Cf w0 m0 rows R m q w) (h:Bel [] w w'):Cf w0 m0 rows R (grow m w w') q w' :=
 ⟨C.sit.grow h,⟨C.rok.fresh,fun r x e=>(C.rok.row r x e).up (C.sit.mem.le_grow w') (Loc.Le.refl q) fun _ _ _=>rfl,C.rok.apart⟩⟩
def At (m:Mem) (q:Loc) (w:World) (b base:Nat) (cells:List V):Prop:=∀ (j:Nat) v,cells[j]?=some v→∃ u,w.cell? ⟨b,base+j,none⟩=some u∧VR m q v u
theorem cell_of {w:World} {b o:Nat} {arr:Array Value} {T:TypeId} {fz:Nat × Nat} {u:Value} (h:w.heap[b]?=some (.cells arr T fz)) (hu:arr[o]?=some u):w.cell? ⟨b,o,none⟩=some u:=by
 simp only [World.cell?,h]
 simpa using hu
theorem Cf.elt (C:Cf w0 m0 rows R m q w) {x:V} {o:Nat} {u:Value} (h:VR m q (.elt x o) u):∃ b base,u=.pointer (some ⟨b,base+o,none⟩)∧At m q w b base x.cells:=by
 cases h with
 | @elt _ _ _ b off arr T fz us h3 h5 h6 =>
  exact ⟨b,off,rfl,fun j v e=>⟨us j,cell_of (C.sit.mem _ _ h3) (h5 j v e).1,(h6 j v e).up (Mem.Le.refl m) (noLoc_le q)⟩⟩
theorem Cf.ptr_box (C:Cf w0 m0 rows R m q w) {r o:Nat} {cells:List V} {u:Value} (h:VR m q (.ptr r 0 o) u) {t:Option Nat} (hr:nth rows r=some (.bx t cells)):∃ b,u=.pointer (some ⟨b,0+o,none⟩)∧At m q w b 0 cells:=by
 rw [nth_eq] at hr
 obtain ⟨b,arr,T,h1,h2,-,h3⟩:=C.rok.row r _ hr
 cases h with
 | @ptr _ _ _ _ b' len cap k h =>
  rw [h1] at h;cases h
  refine ⟨b,by simp,fun j v e=>?_⟩
  obtain ⟨u,e1,e2,e3⟩:=h3.2 j v e
  exact ⟨u,cell_of (C.sit.own _ _ h2).2.1 (by simpa using e1),e3⟩
theorem Cf.ptr_row (C:Cf w0 m0 rows R m q w) {r i o k:Nat} {els:List V} {u:Value} {x:V} (h:VR m q (.ptr r i o) u) (hr:nth rows r=some (.row k els)) (hx:els[i]?=some x):∃ b,u=.pointer (some ⟨b,i*k+o,none⟩)∧At m q w b (i*k) x.cells:=by
 rw [nth_eq] at hr
 obtain ⟨ob,cap,h1,h2,h3,h4,h5⟩:=C.rok.row r _ hr
 cases h with
 | @ptr _ _ _ _ b len cap' k' h =>
  rw [h1] at h;cases h
  obtain ⟨arr,T,fz,h6,h7,h8,h9⟩:=h5 b rfl
  refine ⟨b,rfl,fun j v e=>?_⟩
  obtain ⟨u,e1,e2,e3⟩:=(h8 i x hx).2 j v e
  exact ⟨u,cell_of (C.sit.own _ _ h6).2.1 e1,e3.up (Mem.Le.refl m) (noLoc_le q)⟩
theorem Cf.ptr_rowq (C:Cf w0 m0 rows R m q w) {r i o k:Nat} {els:List V} {u:Value} {x:V} (h:VR m q (.ptr r i o) u) (hr:nth rows r=some (.rowq k els)) (hx:els[i]?=some x):∃ b,u=.pointer (some ⟨b,i*k+o,none⟩)∧At m q w b (i*k) x.cells:=by
 rw [nth_eq] at hr
 obtain ⟨ob,cap,h1,h2,h3,h4,h5⟩:=C.rok.row r _ hr
 cases h with
 | @ptr _ _ _ _ b len cap' k' h =>
  rw [h1] at h;cases h
  obtain ⟨arr,T,fz,h6,h7,h8,h9⟩:=h5 b rfl
  refine ⟨b,rfl,fun j v e=>?_⟩
  obtain ⟨u,e1,e2,e3⟩:=(h8 i x hx).2 j v e
  exact ⟨u,cell_of (C.sit.own _ _ h6).2.1 e1,e3⟩
theorem Cf.ptr_fz (C:Cf w0 m0 rows R m q w) {r i o:Nat} {α:Type} {enc : α→V} {l:List α} {u:Value} (h:VR m q (.ptr r i o) u) (hr:nth rows r=some (.fz enc l)) (hi:i < l.length):∃ b base,u=.pointer (some ⟨b,base+o,none⟩)∧At m q w b base (enc l[i]).cells:=by
 rw [nth_eq] at hr
 obtain ⟨ob,cap,k,h1,h2,h0⟩:=C.rok.row r _ hr
 cases h with
 | @ptr _ _ _ _ b len cap' k' h =>
  rw [h1] at h;cases h
  generalize hu:Value.slice (row0 (some b)) l.length cap=uu at h2
  cases h2 with
  | sl0=>simp at hi
  | @sl _ _ _ _ b' off arr T fz cap' kk us g1 g2 g3 g4 g5 g6 =>
   simp only [row0,Option.map_some,Value.slice.injEq,Option.some.injEq,Addr.mk.injEq,true_and] at hu
   obtain ⟨⟨rfl,rfl,-⟩,rfl⟩:=hu
   have e:kk=k:=(g4 i hi).symm.trans (h0 i hi)
   subst e
   refine ⟨b,i*kk,rfl,fun j v e=>⟨us i j,cell_of (C.sit.mem _ _ g3) ?_,(g6 i hi j v e).up (Mem.Le.refl m) (noLoc_le q)⟩⟩
   have:=(g5 i hi j v e).1
   rwa [Nat.zero_add] at this
theorem ld_ok {P:Program} {T:TypeId} {z:Value} {sz by_ b base o:Nat} {agg:Bool} {cells:List V} {k:V→Prop} (hT:tyOf P T=some (z, sz, by_, agg)) (hA:At m q w b base cells) (h:loadK agg sz cells o k) :
  ∃ v u,k v∧(loadVar T ⟨b,base+o,none⟩).run P w=.ok u w∧VR m q v u:=by
 unfold loadK at h
 cases agg with
 | false =>
  simp only at h
  split at h
  ·rename_i v hv
   rw [nth_eq] at hv
   obtain ⟨u,h1,h2⟩:=hA _ _ hv
   exact ⟨v,u,h,ld1 hT h1,h2⟩
  ·exact h.elim
 | true =>
  obtain ⟨h1,h2⟩:=takeK_ok _ _ _ h
  rw [dropL_eq] at h1 h2
  have key:∀ j,j < sz→∃ v u,((cells.drop o).take sz)[j]?=some v∧w.cell? ⟨b,base+o+j,none⟩=some u∧VR m q v u:=fun j hj=>by
   have hlt:o+j < cells.length:=by simp at h1;omega
   obtain ⟨u,h3,h4⟩:=hA (o+j) cells[o+j] (List.getElem?_eq_getElem hlt)
   refine ⟨cells[o+j],u,?_,by rw [←h3,Nat.add_assoc],h4⟩
   rw [List.getElem?_take,if_pos hj,List.getElem?_drop,List.getElem?_eq_getElem hlt]
  let us:=(List.range sz).map fun j=>(w.cell? ⟨b,base+o+j,none⟩).getD undef
  have hus:∀ j u,us[j]?=some u→j < sz∧w.cell? ⟨b,base+o+j,none⟩=some u:=fun j u hu=>by
   have hj:j < sz:=by
    rcases Nat.lt_or_ge j sz with h|h
    ·exact h
    ·rw [List.getElem?_eq_none (by simp [us];omega)] at hu;cases hu
   obtain ⟨v,u',e1,e2,e3⟩:=key j hj
   refine ⟨hj,?_⟩
   simp [us,hj,e2] at hu
   rw [e2,hu]
  refine ⟨_,_,h2,ldk (cs:=us) hT (by simp [us]) (fun j v hv=>by rw [add_none];exact (hus j v hv).2),VR.agg (by simp [us];simp at h1;omega) fun j v u hv hu=>?_⟩
  obtain ⟨hj,h5⟩:=hus j u hu
  obtain ⟨v',u',e1,e2,e3⟩:=key j hj
  rw [e1] at hv;cases hv
  rw [e2] at h5;cases h5
  exact e3
theorem loadO_ok {E:Env} (H:EnvOK E) (C:Cf w0 m0 rows R m q w) {T:Nat} {a:V} {ua:Value} {k:V→Prop} (ha:VR m q a ua) (h:loadO E T a rows k) :
  ∃ v u p,k v∧ua=.pointer (some p)∧(loadVar T p).run E.P w=.ok u w∧VR m q v u:=by
 unfold loadO at h
 obtain ⟨i,h,hT,-⟩:=tiK_ok H h
 split at h
 ·rename_i x o
  obtain ⟨b,base,rfl,hA⟩:=C.elt ha
  obtain ⟨v,u,h1,h2,h3⟩:=ld_ok hT hA h
  exact ⟨v,u,_,h1,rfl,h2,h3⟩
 ·rename_i r j o
  split at h
  ·rename_i cells hr
   split at h
   ·obtain ⟨b,rfl,hA⟩:=C.ptr_box ha hr
    obtain ⟨v,u,h1,h2,h3⟩:=ld_ok hT hA h
    exact ⟨v,u,_,h1,rfl,h2,h3⟩
   ·exact h.elim
  ·rename_i k' els hr
   obtain ⟨x,hx,h⟩:=h
   obtain ⟨b,rfl,hA⟩:=C.ptr_row ha hr hx
   obtain ⟨v,u,h1,h2,h3⟩:=ld_ok hT hA h
   exact ⟨v,u,_,h1,rfl,h2,h3⟩
  ·rename_i k' els hr
   obtain ⟨x,hx,h⟩:=h
   obtain ⟨b,rfl,hA⟩:=C.ptr_rowq ha hr hx
   obtain ⟨v,u,h1,h2,h3⟩:=ld_ok hT hA h
   exact ⟨v,u,_,h1,rfl,h2,h3⟩
  ·rename_i α enc l hr
   obtain ⟨hj,h⟩:=h
   obtain ⟨b,base,rfl,hA⟩:=C.ptr_fz ha hr hj
   obtain ⟨v,u,h1,h2,h3⟩:=ld_ok hT hA h
   exact ⟨v,u,_,h1,rfl,h2,h3⟩
  ·exact h.elim
 ·exact h.elim
theorem oneCell_cells {u:Value} (h:u.oneCell'=true):u.cells=#[u]:=by cases u<;>first|rfl|cases h
theorem cells_ok {v:V} {u:Value} (h:VR m q v u) (hf:allFlat v.cells=true):∃ us:List Value,u.cells=us.toArray∧VRL m q v.cells us∧∀ x∈us,x.oneCell'=true:=by
 have hfl:=allFlat_ok _ hf
 by_cases ha:∃ cs,v=.agg cs
 ·obtain ⟨cs,rfl⟩:=ha
  cases h with
  | @agg _ _ us hl he =>
   refine ⟨us,rfl,⟨hl,he⟩,fun x hx=>?_⟩
   obtain ⟨i,hi⟩:=List.getElem?_of_mem hx
   have hlt:i < cs.length:=by have:=(List.getElem?_eq_some_iff.1 hi).1;omega
   exact (he i cs[i] x (List.getElem?_eq_getElem hlt) hi).one (hfl _ (List.getElem_mem hlt))
 ·have hc:v.cells=[v]:=by cases v<;>first|rfl|exact absurd ⟨_,rfl⟩ ha
  rw [hc] at hfl
  have h1:=h.one (hfl v (by simp))
  refine ⟨[u],oneCell_cells h1,(by rw [hc];exact VRL.cons h VRL.nil),fun x hx=>by simp at hx;subst hx;exact h1⟩
end
end Gv
end PartV3
