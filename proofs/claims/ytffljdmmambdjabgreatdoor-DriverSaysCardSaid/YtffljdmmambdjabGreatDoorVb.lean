/- A calculus of what functions come to, part b: what is said holds in every world; conditions stand in each theorem. -/
import Derived.Carry
import Derived.MapKept
import Derived.Test.YtffljdmmambdjabGreatDoorVa
set_option linter.unusedVariables false
set_option linter.unusedSimpArgs false
set_option linter.unusedSectionVars false
section PartV4
namespace Gv
open Go Go.RowKit Gw
variable [Glob]
section
variable {w0:Start} {w w':World} {m0 R m:Mem} {q:Loc} {rows:Rows}
def Loc.add (q:Loc) (r:Nat) (x:Option Nat × Nat × Nat × Nat):Loc:=fun k=>if k=r then some x else q k
theorem Cf.le_add (C:Cf w0 m0 rows R m q w) (x:Option Nat × Nat × Nat × Nat):q.Le (q.add rows.length x):=fun r y h=>by
 have:=C.rok.fresh r y h
 unfold Loc.add
 rw [if_neg (by omega)];exact h
theorem Cf.new (C:Cf w0 m0 rows R m q w) (x:Row) {ob:Option Nat} {n c k:Nat} {R' m':Mem} (hs:Sit w0 m0 R' m' w') (hm:m.Le m') (hR:∀ b, b < w.heap.size→R' b=R b) (hob:∀ b, ob=some b→w.heap.size≤b)
  (hx:RowOK R' m' (q.add rows.length (ob,n,c,k)) rows.length x) (hx1:x.one=true:=by rfl):Cf w0 m0 (rows++[x]) R' m' (q.add rows.length (ob,n,c,k)) w':=by
 have hq:=C.le_add (ob,n,c,k)
 have hlt:∀ (r:Nat) y b,rows[r]?=some y→y.mut=true→Occ q r y b→b < w.heap.size:=fun r y b hr hy hb=>by
  have h:=C.rok.row r y hr
  by_cases h1:y.one=true
  case neg =>
   cases y<;>first|exact absurd rfl h1|skip
   obtain ⟨j,n',c',k',hj,hb⟩:=hb
   obtain ⟨ob',cap,h1,h2,h3,h4,h5⟩:=h.1 j _ (List.getElem?_eq_getElem hj)
   rw [h1] at hb;cases hb
   obtain ⟨arr,T,fz,h6,_⟩:=h5 b rfl
   exact C.sit.lt h6
  obtain ⟨n',c',k',hbq⟩:=occ_inv h1 hb
  have hone:=h1
  clear h1
  cases y with
  | dead=>cases hy
  | fz=>cases hy
  | bx t cells =>
   obtain ⟨b',arr,T,h1,h2,-⟩:=h
   rw [h1] at hbq;cases hbq
   exact C.sit.lt h2
  | mp kt et kk enc ents =>
   obtain ⟨b',es,clock,h1,h2,h3⟩:=h
   rw [h1] at hbq;cases hbq
   exact C.sit.lt h2
  | row k els =>
   obtain ⟨ob',cap,h1,h2,h3,h4,h5⟩:=h
   rw [h1] at hbq;cases hbq
   obtain ⟨arr,T,fz,h6,_⟩:=h5 b rfl
   exact C.sit.lt h6
  | byt E l =>
   obtain ⟨b',cap,arr,h1,h2,h3,h4,h5⟩:=h
   rw [h1] at hbq;cases hbq
   exact C.sit.lt h4
  | pack Q subs=>exact absurd hone (by intro h;cases h)
  | rowq k els =>
   obtain ⟨ob',cap,h1,h2,h3,h4,h5⟩:=h
   rw [h1] at hbq;cases hbq
   obtain ⟨arr,T,fz,h6,_⟩:=h5 b rfl
   exact C.sit.lt h6
 have old:∀ (r:Nat) y,(rows++[x])[r]?=some y→(r < rows.length∧rows[r]?=some y)∨(r=rows.length∧y=x):=fun r y h=>by
  rcases Nat.lt_or_ge r rows.length with hr|hr
  ·rw [List.getElem?_append_left hr] at h;exact .inl ⟨hr,h⟩
  ·rw [List.getElem?_append_right hr] at h
   right
   have:r-rows.length=0:=by
    rcases Nat.eq_zero_or_pos (r-rows.length) with e|e
    ·exact e
    ·rw [List.getElem?_eq_none (by simp;omega)] at h;cases h
   rw [this] at h
   simp at h
   exact ⟨by omega,h.symm⟩
 refine ⟨hs,⟨fun r y h=>?_,fun r y h=>?_,fun r r' y y' b h h' hy hy' hb hb'=>?_⟩⟩
 ·unfold Loc.add at h
  split at h
  ·rename_i e;subst e;simp
  ·have:=C.rok.fresh r y h;simp;omega
 ·rcases old r y h with ⟨hr,h⟩|⟨rfl,rfl⟩
  ·exact (C.rok.row r y h).up hm hq fun hy b hb=>hR b (hlt r y b h hy hb)
  ·exact hx
 ·have o1:∀ (r:Nat) y,r < rows.length→Occ (q.add rows.length (ob,n,c,k)) r y b→Occ q r y b:=fun r y hr ho=>occ_q (show q r=(q.add rows.length (ob,n,c,k)) r from (if_neg (by omega)).symm) ho
  have o2:∀ (r:Nat) y,r=rows.length→y=x→Occ (q.add rows.length (ob,n,c,k)) r y b→w.heap.size≤b:=fun r y e ey ho=>by
   subst ey
   obtain ⟨n',c',k',ho⟩:=occ_inv hx1 ho
   rw [show (q.add rows.length (ob,n,c,k)) r=some (ob,n,c,k) from if_pos e] at ho
   exact hob b (by injection ho with e;injection e)
  rcases old r y h with ⟨hr,g⟩|⟨er,ey⟩<;>rcases old r' y' h' with ⟨hr',g'⟩|⟨er',ey'⟩
  ·exact C.rok.apart r r' y y' b g g' hy hy' (o1 r y hr hb) (o1 r' y' hr' hb')
  ·have h1:=hlt r y b g hy (o1 r y hr hb)
   have h2:=o2 r' y' er' ey' hb'
   omega
  ·have h1:=hlt r' y' b g' hy' (o1 r' y' hr' hb')
   have h2:=o2 r y er ey hb
   omega
  ·omega
theorem add_self (q:Loc) (r:Nat) (x:Option Nat × Nat × Nat × Nat):(q.add r x) r=some x:=if_pos rfl
theorem Cf.box (C:Cf w0 m0 rows R m q w) {cells:List V} {us:List Value} (t:Option Nat) (T:TypeId) (ht:∀ T', t=some T'→T'=T) (h:VRL m q cells us) (h1:∀ x∈us, x.oneCell'=true) :
  Cf w0 m0 (rows++[.bx t cells]) (R.put w.heap.size (.cells us.toArray T)) m (q.add rows.length (some w.heap.size,1,1,cells.length)) (w.alloc (.cells us.toArray T)):=by
 refine C.new (.bx t cells) (C.sit.new _) (Mem.Le.refl m) (fun b hb=>if_neg (by omega)) (fun b hb=>by cases hb;exact Nat.le_refl _) ?_
 refine ⟨w.heap.size,us.toArray,T,add_self _ _ _,by simp [Mem.put],ht,by simp [h.len],fun j v e=>?_⟩
 have hj:j < us.length:=by have:=(List.getElem?_eq_some_iff.1 e).1;have:=h.len;omega
 exact ⟨us[j],by simp [hj],h1 _ (List.getElem_mem hj),(h.el j v us[j] e (List.getElem?_eq_getElem hj)).up (Mem.Le.refl m) (C.le_add _)⟩
theorem Cf.row (C:Cf w0 m0 rows R m q w) {w1:World} (hw1:Bel [] w w1) {els:List V} {k cap:Nat} {arr:Array Value} (T:TypeId) (hs:arr.size=cap*k) (hl:els.length≤cap) (hc:cap≤MAXL) (he:ElsR m k els arr) :
  Cf w0 m0 (rows++[.row k els]) (R.put w1.heap.size (.cells arr T)) m (q.add rows.length (some w1.heap.size,els.length,cap,k)) (w1.alloc (.cells arr T)):=by
 have hsz:=hw1.size
 refine C.new (.row k els) ((C.sit.step hw1).new _) (Mem.Le.refl m) (fun b hb=>if_neg (by omega)) (fun b hb=>by cases hb;exact hsz) ?_
 exact ⟨some w1.heap.size,cap,add_self _ _ _,hl,hc,(fun h=>by cases h),(fun b hb=>by cases hb;exact ⟨arr,T,(0,0),(by simp [Mem.put]),hs,he,noFk0 _ _⟩)⟩
theorem Cf.rowG (C:Cf w0 m0 rows R m q w) {w1:World} (hw1:Bel [] w w1) {els:List V} {k cap:Nat} {arr:Array Value} {T:TypeId} {fz:Nat × Nat} (hb:w1.heap[w.heap.size]?=some (.cells arr T fz)) (hz:noFk k arr.size fz) (hs:arr.size=cap*k) (hl:els.length≤cap) (hc:cap≤MAXL) (he:ElsR m k els arr) :
  Cf w0 m0 (rows++[.row k els]) (R.put w.heap.size (.cells arr T fz)) m (q.add rows.length (some w.heap.size,els.length,cap,k)) w1:=by
 have S:=C.sit
 have T1:=S.step hw1
 have S2:Sit w0 m0 (R.put w.heap.size (.cells arr T fz)) m w1:=by
  refine ⟨T1.bel,fun b o' h=>?_,T1.mem,S.low,S.glob⟩
  unfold Mem.put at h
  split at h
  ·rename_i e
   subst e
   cases h
   refine ⟨.inl S.bel.size,hb,?_⟩
   cases hm:m w.heap.size with
   | none=>rfl
   | some o'=>have:=S.mem.lt hm;omega
  ·exact T1.own b o' h
 refine C.new (.row k els) S2 (Mem.Le.refl m) (fun b hb=>if_neg (by omega)) (fun b hb=>by cases hb;exact Nat.le_refl _) ?_
 exact ⟨some w.heap.size,cap,add_self _ _ _,hl,hc,(fun h=>by cases h),(fun b hb=>by cases hb;exact ⟨arr,T,fz,(by simp [Mem.put]),hs,he,hz⟩)⟩
theorem Cf.row0 (C:Cf w0 m0 rows R m q w) (k:Nat):Cf w0 m0 (rows++[.row k []]) R m (q.add rows.length (none,0,0,k)) w :=
 C.new (.row k []) C.sit (Mem.Le.refl m) (fun b hb=>rfl) (fun b hb=>by cases hb) ⟨none,0,add_self _ _ _,by simp,by simp,fun _=>rfl,fun b hb=>by cases hb⟩
theorem Cf.set (C:Cf w0 m0 rows R m q w) {r:Nat} {x y:Row} {R' m':Mem} {w':World} (hr:rows[r]?=some x) (hs:Sit w0 m0 R' m' w') (hm:m.Le m') (hxy:y.mut=true→x.mut=true)
  (hR:∀ (b:Nat),(∃ r' y',r'≠r∧rows[r']?=some y'∧y'.mut=true∧Occ q r' y' b)→R' b=R b) (hy:RowOK R' m' q r y) (ho:y.mut=true→∀ b,Occ q r y b→Occ q r x b:=by first|exact fun _ _ h=>h|(intro h;cases h;done)):Cf w0 m0 (rows.set r y) R' m' q w':=by
 have hlt:r < rows.length:=(List.getElem?_eq_some_iff.1 hr).1
 have old:∀ (j:Nat) z,(rows.set r y)[j]?=some z→(j≠r∧rows[j]?=some z)∨(j=r∧z=y):=fun j z h=>by
  by_cases e:r=j
  ·subst e;rw [List.getElem?_set_self hlt] at h;cases h;exact .inr ⟨rfl,rfl⟩
  ·rw [List.getElem?_set_ne e] at h;exact .inl ⟨fun h=>e h.symm,h⟩
 refine ⟨hs,⟨fun j z h=>by simpa using C.rok.fresh j z h,fun j z h=>?_,fun j j' z z' b h h' hz hz' hb hb'=>?_⟩⟩
 ·rcases old j z h with ⟨hj,h⟩|⟨rfl,rfl⟩
  ·exact (C.rok.row j z h).up hm (Loc.Le.refl q) fun hz b hb=>hR b ⟨j,z,hj,h,hz,hb⟩
  ·exact hy
 ·have fx:∀ (j:Nat) z, (rows.set r y)[j]?=some z→z.mut=true→Occ q j z b→∃ z', rows[j]?=some z'∧z'.mut=true∧Occ q j z' b := fun j z h hz hb => by
   rcases old j z h with ⟨hj,h⟩|⟨rfl,rfl⟩
   ·exact ⟨z,h,hz,hb⟩
   ·exact ⟨x,hr,hxy hz,ho hz b hb⟩
  obtain ⟨y1,g1,g2,g3⟩:=fx j z h hz hb
  obtain ⟨y2,g4,g5,g6⟩:=fx j' z' h' hz' hb'
  exact C.rok.apart j j' y1 y2 b g1 g4 g2 g5 g3 g6
theorem Cf.kill (C:Cf w0 m0 rows R m q w) {r:Nat} {x:Row} (hr:rows[r]?=some x):Cf w0 m0 (rows.set r .dead) R m q w :=
 C.set hr C.sit (Mem.Le.refl m) (fun h=>by cases h) (fun b _=>rfl) trivial
theorem Cf.fz (C:Cf w0 m0 rows R m q w) {r k:Nat} {els:List V} (hr:rows[r]?=some (.row k els)) {α:Type} {enc : α→V} {l:List α} (hl:LeL els (l.map enc)) :
  ∃ R' m',Cf w0 m0 (rows.set r (.fz enc l)) R' m' q w∧m.Le m':=by
 obtain ⟨ob,cap,h1,h2,h3,h4,h5⟩:=C.rok.row r _ hr
 have hlen:els.length=l.length:=by have:=hl.len;simpa using this
 cases ob with
 | none =>
  have hc:=h4 rfl
  subst hc
  have:l=[]:=List.length_eq_zero_iff.1 (by omega)
  subst this
  refine ⟨R,m,C.set hr C.sit (Mem.Le.refl m) (fun h=>by cases h) (fun b _=>rfl) ⟨none,0,k,by rw [h1,hlen],?_,fun i h=>by simp at h⟩,Mem.Le.refl m⟩
  exact VR.sl0 (by omega) (fun _=>rfl)
 | some b =>
  obtain ⟨arr,T,fz,h6,h7,h8,h9⟩:=h5 b rfl
  obtain ⟨S,hm⟩:=C.sit.freeze h6
  have hk:∀ i (h:i < l.length),(enc l[i]).cells.length=k:=fun i h=>by
   have e1:els[i]?=some els[i]:=List.getElem?_eq_getElem (by omega)
   have e2:(l.map enc)[i]?=some (enc l[i]):=by simp [h]
   rw [←(hl.el i _ _ e1 e2).1]
   exact (h8 i _ e1).1
  have hcell:∀ i (h:i < l.length) (j:Nat) v,(enc l[i]).cells[j]?=some v→∃ u,arr[i*k+j]?=some u∧u.oneCell'=true∧VR m noLoc v u:=fun i h j v e=>by
   have e1:els[i]?=some els[i]:=List.getElem?_eq_getElem (by omega)
   have e2:(l.map enc)[i]?=some (enc l[i]):=by simp [h]
   have hh:=hl.el i _ _ e1 e2
   have hj:j < (els[i]'(by omega)).cells.length:=by rw [hh.1];exact (List.getElem?_eq_some_iff.1 e).1
   have e3:(els[i]'(by omega)).cells[j]?=some (els[i]'(by omega)).cells[j]:=List.getElem?_eq_getElem hj
   obtain ⟨u,g1,g2,g3⟩:=(h8 i _ e1).2 j _ e3
   exact ⟨u,g1,g2,hh.2 j _ v e3 e m u g3⟩
  refine ⟨Mem.del R b,m.put b (.cells arr T fz),C.set hr S hm (fun h=>by cases h) (fun b' ⟨r',y',g1,g2,g3,g4⟩=>?_) ⟨some b,cap,k,by rw [h1,hlen],?_,hk⟩,hm⟩
  ·unfold Mem.del
   rw [if_neg]
   intro e;subst e
   exact g1 (C.rok.apart r' r y' _ b' g2 hr g3 rfl g4 ⟨_,_,_,h1⟩)
  ·refine VR.sl (b:=b) (off:=0) (arr:=arr) (T:=T) (fz:=fz) (cap:=cap) (k:=k) (fun i j=>(arr[i*k+j]?).getD undef) (by omega) h3 (by simp [Mem.put]) hk (fun i h j v e=>?_) (fun i h j v e=>?_)
   ·obtain ⟨u,g1,g2,g3⟩:=hcell i h j v e
    simp only [Nat.zero_add,g1,Option.getD_some,true_and];exact g2
   ·obtain ⟨u,g1,g2,g3⟩:=hcell i h j v e
    simp only [g1,Option.getD_some];exact g3.up hm (Loc.Le.refl _)
theorem Cf.own_fz (C:Cf w0 m0 rows R m q w) {r:Nat} {α:Type} {enc : α→V} {l:List α} (hr:rows[r]?=some (.fz enc l)) {u:Value} (h:VR m q (.own r) u):VR m noLoc (.sl enc l) u:=by
 obtain ⟨ob,cap,k,h1,h2,h3⟩:=C.rok.row r _ hr
 cases h with
 | own h=>rw [h1] at h;cases h;exact h2
theorem Cf.store (C:Cf w0 m0 rows R m q w) {r:Nat} {x y:Row} {b:Nat} {n c k:Nat} {o o':Obj} (hr:rows[r]?=some x) (hx:x.mut=true) (hq:q r=some (some b, n, c, k)) (hb:R b=some o) (hw:Bel [b] w w') (hn:w'.heap[b]?=some o')
  (hy:RowOK (R.put b o') m q r y) (hx1:x.one=true:=by rfl) (ho:y.mut=true→∀ b,Occ q r y b→Occ q r x b:=by first|exact fun _ _ h=>h|(intro h;cases h;done)):Cf w0 m0 (rows.set r y) (R.put b o') m q w' :=
 C.set hr (C.sit.write hb hw hn) (Mem.Le.refl m) (fun _=>hx) (ho:=ho) (hy:=hy) (hR:=fun b' ⟨r',y',g1,g2,g3,g4⟩=>by
  unfold Mem.put
  rw [if_neg]
  intro e;subst e
  exact g1 (C.rok.apart r' r y' _ b' g2 hr g3 hx g4 (occ_one hx1 hq)))
end
section
variable {w0:Start} {w w':World} {m0 R m:Mem} {q:Loc} {rows:Rows}
def Frozen (w0:Start) (m0 m:Mem) (q:Loc) (w:World) (k:V→Rows→Prop) (u:Value):Prop:=∃ v' rows' R' m',k v' rows'∧Cf w0 m0 rows' R' m' q w∧m.Le m'∧VR m' noLoc v' u
theorem fz1_ok (C:Cf w0 m0 rows R m q w) {v:V} {u:Value} {k:V→Rows→Prop} (hv:VR m q v u) (h:fz1 v rows k):Frozen w0 m0 m q w k u:=by
 cases v<;>simp only [fz1] at h
 case int q n=>exact ⟨_,_,_,_,h,C,Mem.Le.refl m,hv.free rfl⟩
 case bool b=>exact ⟨_,_,_,_,h,C,Mem.Le.refl m,hv.free rfl⟩
 case lit b=>cases hv;exact ⟨_,_,_,_,h,C,Mem.Le.refl m,.bool⟩
 case str s=>exact ⟨_,_,_,_,h,C,Mem.Le.refl m,hv.free rfl⟩
 case sl α enc l=>exact ⟨_,_,_,_,h,C,Mem.Le.refl m,hv.free rfl⟩
 case nil =>
  obtain ⟨α,enc,h⟩:=h
  cases hv
  exact ⟨_,_,_,_,h,C,Mem.Le.refl m,.sl0 (by simp) (fun _=>rfl)⟩
 case raw x=>exact ⟨_,_,_,_,h,C,Mem.Le.refl m,hv.free rfl⟩
 case own r =>
  split at h
  ·rename_i kk els hr
   rw [nth_eq] at hr
   obtain ⟨α,enc,l,hl,h⟩:=h
   obtain ⟨h1,h2⟩:=setK_ok _ _ _ _ h
   obtain ⟨R',m',C',hm⟩:=C.fz hr hl
   refine ⟨_,_,R',m',h2,C',hm,C'.own_fz (by simp [h1]) (hv.up hm (Loc.Le.refl q))⟩
  ·rename_i α enc l hr
   rw [nth_eq] at hr
   exact ⟨_,_,R,m,h,C,Mem.Le.refl m,C.own_fz hr hv⟩
  ·exact h.elim
theorem fzL1_ok:∀ (vs:List V) (rows:Rows) (R m:Mem) (us:List Value) (k:List V→Rows→Prop), Cf w0 m0 rows R m q w→VRL m q vs us→fzL1 vs rows k →
  ∃ vs' rows' R' m',k vs' rows'∧Cf w0 m0 rows' R' m' q w∧m.Le m'∧VRL m' noLoc vs' us
 | [],rows,R,m,us,k,C,hv,h=>by
  obtain rfl:us=[]:=List.length_eq_zero_iff.1 (by have:=hv.len;simpa using this.symm)
  exact ⟨_,_,R,m,h,C,Mem.Le.refl m,VRL.nil⟩
 | v::r,rows,R,m,us,k,C,hv,h=>by
  obtain ⟨u,us',rfl⟩:∃ u us',us=u::us':=by
   cases us with
   | nil=>have:=hv.len;simp at this
   | cons u us'=>exact ⟨u,us',rfl⟩
  obtain ⟨v',rows1,R1,m1,h1,C1,hm1,hv1⟩:=fz1_ok C (hv.el 0 v u rfl rfl) h
  have hv':VRL m q r us':=⟨by have:=hv.len;simpa using this,fun i x y e e'=>hv.el (i+1) x y (by simpa using e) (by simpa using e')⟩
  obtain ⟨vs',rows2,R2,m2,h2,C2,hm2,hv2⟩:=fzL1_ok r rows1 R1 m1 us' _ C1 (hv'.up hm1 (Loc.Le.refl q)) h1
  exact ⟨_,_,R2,m2,h2,C2,hm1.trans hm2,VRL.cons (hv1.up hm2 (Loc.Le.refl _)) hv2⟩
theorem fzA_ok (C:Cf w0 m0 rows R m q w) {v:V} {u:Value} {k:V→Rows→Prop} (hv:VR m q v u) (h:fzA v rows k):Frozen w0 m0 m q w k u:=by
 cases v<;>unfold fzA at h<;>first|exact fz1_ok C hv h|skip
 case agg cs =>
  cases hv with
  | @agg _ _ us hl he =>
   obtain ⟨vs',rows',R',m',h1,C',hm,hv'⟩:=fzL1_ok cs rows R m us _ C ⟨hl,he⟩ h
   exact ⟨_,_,R',m',h1,C',hm,.agg hv'.len hv'.el⟩
 case fn f cs =>
  cases hv with
  | @fn _ _ _ us hl he =>
   obtain ⟨vs',rows',R',m',h1,C',hm,hv'⟩:=fzL1_ok cs rows R m us _ C ⟨hl,he⟩ h
   exact ⟨_,_,R',m',h1,C',hm,.fn hv'.len hv'.el⟩
theorem fzLA_ok:∀ (vs:List V) (rows:Rows) (R m:Mem) (us:List Value) (k:List V→Rows→Prop), Cf w0 m0 rows R m q w→VRL m q vs us→fzLA vs rows k →
  ∃ vs' rows' R' m',k vs' rows'∧Cf w0 m0 rows' R' m' q w∧m.Le m'∧VRL m' noLoc vs' us
 | [],rows,R,m,us,k,C,hv,h=>by
  obtain rfl:us=[]:=List.length_eq_zero_iff.1 (by have:=hv.len;simpa using this.symm)
  exact ⟨_,_,R,m,h,C,Mem.Le.refl m,VRL.nil⟩
 | v::r,rows,R,m,us,k,C,hv,h=>by
  obtain ⟨u,us',rfl⟩:∃ u us',us=u::us':=by
   cases us with
   | nil=>have:=hv.len;simp at this
   | cons u us'=>exact ⟨u,us',rfl⟩
  obtain ⟨v',rows1,R1,m1,h1,C1,hm1,hv1⟩:=fzA_ok C (hv.el 0 v u rfl rfl) h
  have hv':VRL m q r us':=⟨by have:=hv.len;simpa using this,fun i x y e e'=>hv.el (i+1) x y (by simpa using e) (by simpa using e')⟩
  obtain ⟨vs',rows2,R2,m2,h2,C2,hm2,hv2⟩:=fzLA_ok r rows1 R1 m1 us' _ C1 (hv'.up hm1 (Loc.Le.refl q)) h1
  exact ⟨_,_,R2,m2,h2,C2,hm1.trans hm2,VRL.cons (hv1.up hm2 (Loc.Le.refl _)) hv2⟩
theorem fzT_ok (C:Cf w0 m0 rows R m q w) {v:V} {u:Value} {k:V→Rows→Prop} (hv:VR m q v u) (h:fzT v rows k):Frozen w0 m0 m q w k u:=by
 cases v<;>unfold fzT at h<;>first|exact fzA_ok C hv h|skip
 case tup cs =>
  cases hv with
  | @tup _ _ us hl he =>
   obtain ⟨vs',rows',R',m',h1,C',hm,hv'⟩:=fzLA_ok cs rows R m us _ C ⟨hl,he⟩ h
   exact ⟨_,_,R',m',h1,C',hm,.tup hv'.len hv'.el⟩
theorem fzC1_ok (C:Cf w0 m0 rows R m q w) {v:V} {u:Value} {k:V→Rows→Prop} (hv:VR m q v u) (h:fzC1 v rows k):∃ v' rows' R' m',k v' rows'∧Cf w0 m0 rows' R' m' q w∧m.Le m'∧VR m' q v' u:=by
 cases v<;>unfold fzC1 at h<;>first|exact ⟨_,_,R,m,h,C,Mem.Le.refl m,hv⟩|skip
 obtain ⟨v',rows',R',m',h1,h2,h3,h4⟩:=fz1_ok C hv h
 exact ⟨v',rows',R',m',h1,h2,h3,h4.up (Mem.Le.refl _) (noLoc_le q)⟩
theorem fzCL_ok:∀ (vs:List V) (rows:Rows) (R m:Mem) (us:List Value) (k:List V→Rows→Prop), Cf w0 m0 rows R m q w→VRL m q vs us→fzCL vs rows k →
  ∃ vs' rows' R' m',k vs' rows'∧Cf w0 m0 rows' R' m' q w∧m.Le m'∧VRL m' q vs' us
 | [],rows,R,m,us,k,C,hv,h=>by
  obtain rfl:us=[]:=List.length_eq_zero_iff.1 (by have:=hv.len;simpa using this.symm)
  exact ⟨_,_,R,m,h,C,Mem.Le.refl m,VRL.nil⟩
 | v::r,rows,R,m,us,k,C,hv,h=>by
  obtain ⟨u,us',rfl⟩:∃ u us',us=u::us':=by
   cases us with
   | nil=>have:=hv.len;simp at this
   | cons u us'=>exact ⟨u,us',rfl⟩
  obtain ⟨v',rows1,R1,m1,h1,C1,hm1,hv1⟩:=fzC1_ok C (hv.el 0 v u rfl rfl) h
  have hv':VRL m q r us':=⟨by have:=hv.len;simpa using this,fun i x y e e'=>hv.el (i+1) x y (by simpa using e) (by simpa using e')⟩
  obtain ⟨vs',rows2,R2,m2,h2,C2,hm2,hv2⟩:=fzCL_ok r rows1 R1 m1 us' _ C1 (hv'.up hm1 (Loc.Le.refl q)) h1
  exact ⟨_,_,R2,m2,h2,C2,hm1.trans hm2,VRL.cons (hv1.up hm2 (Loc.Le.refl _)) hv2⟩
theorem fzS1_ok (C:Cf w0 m0 rows R m q w) {v:V} {u:Value} {k:V→Rows→Prop} (hv:VR m q v u) (h:fzS1 v rows k):∃ v' rows' R' m',k v' rows'∧Cf w0 m0 rows' R' m' q w∧m.Le m'∧VR m' q v' u:=by
 cases v<;>unfold fzS1 at h<;>first|exact ⟨_,_,R,m,h,C,Mem.Le.refl m,hv⟩|skip
 cases hv with
 | agg hl he =>
  obtain ⟨vs',rows',R',m',h1,h2,h3,h4⟩:=fzCL_ok _ _ _ _ _ _ C ⟨hl,he⟩ h
  exact ⟨_,rows',R',m',h1,h2,h3,.agg h4.len h4.el⟩
theorem fzS_ok:∀ (vs:List V) (rows:Rows) (R m:Mem) (us:List Value) (k:List V→Rows→Prop), Cf w0 m0 rows R m q w→VRL m q vs us→fzS vs rows k →
  ∃ vs' rows' R' m',k vs' rows'∧Cf w0 m0 rows' R' m' q w∧m.Le m'∧VRL m' q vs' us
 | [],rows,R,m,us,k,C,hv,h=>by
  obtain rfl:us=[]:=List.length_eq_zero_iff.1 (by have:=hv.len;simpa using this.symm)
  exact ⟨_,_,R,m,h,C,Mem.Le.refl m,VRL.nil⟩
 | v::r,rows,R,m,us,k,C,hv,h=>by
  obtain ⟨u,us',rfl⟩:∃ u us',us=u::us':=by
   cases us with
   | nil=>have:=hv.len;simp at this
   | cons u us'=>exact ⟨u,us',rfl⟩
  obtain ⟨v',rows1,R1,m1,h1,C1,hm1,hv1⟩:=fzS1_ok C (hv.el 0 v u rfl rfl) h
  have hv':VRL m q r us':=⟨by have:=hv.len;simpa using this,fun i x y e e'=>hv.el (i+1) x y (by simpa using e) (by simpa using e')⟩
  obtain ⟨vs',rows2,R2,m2,h2,C2,hm2,hv2⟩:=fzS_ok r rows1 R1 m1 us' _ C1 (hv'.up hm1 (Loc.Le.refl q)) h1
  exact ⟨_,_,R2,m2,h2,C2,hm1.trans hm2,VRL.cons (hv1.up hm2 (Loc.Le.refl _)) hv2⟩
theorem fzD1_ok (C:Cf w0 m0 rows R m q w) {v:V} {u:Value} {k:V→Rows→Prop} (hv:VR m q v u) (h:fzD1 v rows k):∃ v' rows' R' m',k v' rows'∧Cf w0 m0 rows' R' m' q w∧m.Le m'∧VR m' q v' u:=by
 cases v<;>unfold fzD1 at h<;>first
  | exact ⟨_,_,R,m,h,C,Mem.Le.refl m,hv⟩
  | (obtain ⟨v', rows', R', m', h1, h2, h3, h4⟩ := fz1_ok C hv h
     exact ⟨v',rows',R',m',h1,h2,h3,h4.up (Mem.Le.refl _) (noLoc_le q)⟩)
theorem fzDL_ok:∀ (vs:List V) (rows:Rows) (R m:Mem) (us:List Value) (k:List V→Rows→Prop), Cf w0 m0 rows R m q w→VRL m q vs us→fzDL vs rows k →
  ∃ vs' rows' R' m',k vs' rows'∧Cf w0 m0 rows' R' m' q w∧m.Le m'∧VRL m' q vs' us
 | [],rows,R,m,us,k,C,hv,h=>by
  obtain rfl:us=[]:=List.length_eq_zero_iff.1 (by have:=hv.len;simpa using this.symm)
  exact ⟨_,_,R,m,h,C,Mem.Le.refl m,VRL.nil⟩
 | v::r,rows,R,m,us,k,C,hv,h=>by
  obtain ⟨u,us',rfl⟩:∃ u us',us=u::us':=by
   cases us with
   | nil=>have:=hv.len;simp at this
   | cons u us'=>exact ⟨u,us',rfl⟩
  obtain ⟨v',rows1,R1,m1,h1,C1,hm1,hv1⟩:=fzD1_ok C (hv.el 0 v u rfl rfl) (show fzD1 v rows fun v' rows'=>fzDL r rows' fun r' rows''=>k (v'::r') rows'' from h)
  have hv':VRL m q r us':=⟨by have:=hv.len;simpa using this,fun i x y e e'=>hv.el (i+1) x y (by simpa using e) (by simpa using e')⟩
  obtain ⟨vs',rows2,R2,m2,h2,C2,hm2,hv2⟩:=fzDL_ok r rows1 R1 m1 us' _ C1 (hv'.up hm1 (Loc.Le.refl q)) h1
  exact ⟨_,_,R2,m2,h2,C2,hm1.trans hm2,VRL.cons (hv1.up hm2 (Loc.Le.refl _)) hv2⟩
theorem fzDS1_ok (C:Cf w0 m0 rows R m q w) {v:V} {u:Value} {k:V→Rows→Prop} (hv:VR m q v u) (h:fzDS1 v rows k):∃ v' rows' R' m',k v' rows'∧Cf w0 m0 rows' R' m' q w∧m.Le m'∧VR m' q v' u:=by
 cases v<;>unfold fzDS1 at h<;>first|exact ⟨_,_,R,m,h,C,Mem.Le.refl m,hv⟩|skip
 cases hv with
 | agg hl he =>
  obtain ⟨vs',rows',R',m',h1,h2,h3,h4⟩:=fzDL_ok _ _ _ _ _ _ C ⟨hl,he⟩ h
  exact ⟨_,rows',R',m',h1,h2,h3,.agg h4.len h4.el⟩
theorem fzDS_ok:∀ (vs:List V) (rows:Rows) (R m:Mem) (us:List Value) (k:List V→Rows→Prop), Cf w0 m0 rows R m q w→VRL m q vs us→fzDS vs rows k →
  ∃ vs' rows' R' m',k vs' rows'∧Cf w0 m0 rows' R' m' q w∧m.Le m'∧VRL m' q vs' us
 | [],rows,R,m,us,k,C,hv,h=>by
  obtain rfl:us=[]:=List.length_eq_zero_iff.1 (by have:=hv.len;simpa using this.symm)
  exact ⟨_,_,R,m,h,C,Mem.Le.refl m,VRL.nil⟩
 | v::r,rows,R,m,us,k,C,hv,h=>by
  obtain ⟨u,us',rfl⟩:∃ u us',us=u::us':=by
   cases us with
   | nil=>have:=hv.len;simp at this
   | cons u us'=>exact ⟨u,us',rfl⟩
  obtain ⟨v',rows1,R1,m1,h1,C1,hm1,hv1⟩:=fzDS1_ok C (hv.el 0 v u rfl rfl) (show fzDS1 v rows fun v' rows'=>fzDS r rows' fun r' rows''=>k (v'::r') rows'' from h)
  have hv':VRL m q r us':=⟨by have:=hv.len;simpa using this,fun i x y e e'=>hv.el (i+1) x y (by simpa using e) (by simpa using e')⟩
  obtain ⟨vs',rows2,R2,m2,h2,C2,hm2,hv2⟩:=fzDS_ok r rows1 R1 m1 us' _ C1 (hv'.up hm1 (Loc.Le.refl q)) h1
  exact ⟨_,_,R2,m2,h2,C2,hm1.trans hm2,VRL.cons (hv1.up hm2 (Loc.Le.refl _)) hv2⟩
end
end Gv
end PartV4
section PartV5
namespace Gv
open Go Go.RowKit Gw
variable [Glob]
section
variable {w0:Start} {w w':World} {m0 R m:Mem} {q:Loc} {rows:Rows} {P:Program}
def Nx (P:Program) (r:Result Next) (G:Value→World→Prop):Prop :=
 match r with
 | .ok (.value u) w'=>G u w'
 | .ok .skip w'=>G undef w'
 | .ok (.enter f args) w'=>Calls P f args w' fun e w''=>∃ u,e=.returned u∧G u w''
 | _=>False
theorem Nx.wp {o:Oper} {a:Act} {next:Act→World→Prop} {Q:Exit→Act→World→Prop} {G:Value→World→Prop} (h:Nx P ((execOp a.eval o).run P w) G) (hn:∀ u w',G u w'→next (a.put o.dst u) w'):o.wp P a w next Q:=by
 unfold Oper.wp
 generalize (execOp a.eval o).run P w=r at h
 unfold Nx at h
 split at h
 ·rw [Oper.upon_value];exact hn _ _ h
 ·rw [Oper.upon_skip];exact hn _ _ h
 ·rw [Oper.upon_enter]
  refine h.mono fun e w' ⟨u,he,hG⟩=>?_
  subst he
  exact hn _ _ hG
 ·exact h.elim
structure Src (P:Program) (m:Mem) (w:World) (k:Nat) (ys:List V) (u:Value) (new:List Value):Prop where
 len:∀ w',(Builtin.lenOf u).run P w'=.ok ys.length w'
 size:new.length=ys.length*k
 run:∀ w':World,w'.heap=w.heap→(Builtin.firstCells k ys.length u).run P w'=.ok new.toArray w'
 one:∀ x∈new,x.oneCell'=true
 el:∀ (i:Nat) x,ys[i]?=some x→x.cells.length=k∧∀ (j:Nat) v,x.cells[j]?=some v→∃ u',new[i*k+j]?=some u'∧u'.oneCell'=true∧VR m noLoc v u'
theorem index_split {n k x:Nat} (h:x < n*k):x / k < n∧x % k < k∧x / k*k+x % k=x:=by
 have hk:0 < k:=Nat.pos_of_ne_zero fun e=>by subst e;simp at h
 refine ⟨Nat.div_lt_of_lt_mul (by rw [Nat.mul_comm];exact h),Nat.mod_lt _ hk,?_⟩
 have:=Nat.div_add_mod x k
 rw [Nat.mul_comm] at this;exact this
theorem index_lt {n k i j:Nat} (hi:i < n) (hj:j < k):i*k+j < n*k:=by
 have:(i+1)*k≤n*k:=Nat.mul_le_mul_right _ hi
 rw [Nat.add_mul] at this;omega
theorem src_block {b off k cap:Nat} {arr:Array Value} {T:TypeId} {fz:Nat × Nat} {ys:List V} (hb:w.heap[b]?=some (.cells arr T fz))
  (he:∀ (i:Nat) x,ys[i]?=some x→x.cells.length=k∧∀ (j:Nat) v,x.cells[j]?=some v→∃ u,arr[off+i*k+j]?=some u∧u.oneCell'=true∧VR m noLoc v u) :
  Src P m w k ys (.slice (some ⟨b,off,none⟩) ys.length cap) ((List.range (ys.length*k)).map fun j=>(arr[off+j]?).getD undef):=by
 have cell:∀ x,x < ys.length*k→∃ u,arr[off+x]?=some u∧u.oneCell'=true:=fun x hx=>by
  obtain ⟨h1,h2,h3⟩:=index_split hx
  have e1:ys[x / k]?=some ys[x / k]:=List.getElem?_eq_getElem h1
  obtain ⟨g1,g2⟩:=he _ _ e1
  obtain ⟨u,g3,g4,g5⟩:=g2 (x % k) (ys[x / k].cells[x % k]'(by omega)) (List.getElem?_eq_getElem (by omega))
  exact ⟨u,by rw [←g3];congr 1;omega,g4⟩
 refine ⟨fun w'=>rfl,by simp,fun w' hw'=>?_,fun x hx=>?_,fun i x hi=>⟨(he i x hi).1,fun j v hj=>?_⟩⟩
 ·have := run_loadCells_list (P := P) (w := w') ⟨b, off, none⟩ ((List.range (ys.length*k)).map fun j => (arr[off+j]?).getD undef) fun j v hv => by
   have hj:j < ys.length*k:=by
    rcases Nat.lt_or_ge j (ys.length*k) with h|h
    ·exact h
    ·rw [List.getElem?_eq_none (by simp;omega)] at hv;cases hv
   obtain ⟨u,g1,g2⟩:=cell j hj
   simp [hj,g1] at hv
   rw [add_none]
   simp only [World.cell?,hw',hb]
   simp [g1,hv]
  simp only [List.length_map,List.length_range] at this
  simpa only [Builtin.firstCells] using this
 ·simp only [List.mem_map,List.mem_range] at hx
  obtain ⟨j,hj,rfl⟩:=hx
  obtain ⟨u,g1,g2⟩:=cell j hj
  rw [g1];exact g2
 ·obtain ⟨u,g1,g2,g3⟩:=(he i x hi).2 j v hj
  refine ⟨u,?_,g2,g3⟩
  have hlt:i*k+j < ys.length*k:=by
   have h1:=(List.getElem?_eq_some_iff.1 hi).1
   have h2:=(List.getElem?_eq_some_iff.1 hj).1
   rw [(he i x hi).1] at h2
   exact index_lt h1 h2
  simp [hlt,←Nat.add_assoc,g1]
theorem src_nil {k:Nat} {oa:Option Addr} {cap:Nat}:Src P m w k [] (.slice oa 0 cap) [] :=
 ⟨fun w'=>rfl,by simp,fun w' _=>by cases oa<;>simp [Builtin.firstCells,loadCells,loadCellsFrom],fun x hx=>(by cases hx),fun i x h=>by simp at h⟩
theorem Cf.src (C:Cf w0 m0 rows R m q w) {k:Nat} {y:V} {u:Value} {ys:List V} (hy:VR m q y u) (hn:elN k y rows) (he:elsOf y rows=some ys):∃ new,Src P m w k ys u new:=by
 have sl:∀ {q:Loc} {α:Type} {enc : α→V} {l:List α} {u:Value},VR m q (.sl enc l) u→(∀ a,(enc a).cells.length=k)→∃ new,Src P m w k (l.map enc) u new:=by
  intro q α enc l u h hk
  cases h with
  | sl0=>exact ⟨[],src_nil⟩
  | @sl _ _ _ _ b off arr T fz cap kk us h1 h2 h3 h4 h5 h6 =>
   have key:=src_block (P:=P) (m:=m) (w:=w) (b:=b) (off:=off) (k:=k) (cap:=cap) (arr:=arr) (T:=T) (fz:=fz) (ys:=l.map enc) (C.sit.mem _ _ h3) (fun i x hi=>by
    simp only [List.getElem?_map,Option.map_eq_some_iff] at hi
    obtain ⟨a,ha,rfl⟩:=hi
    obtain ⟨hlt,rfl⟩:=List.getElem?_eq_some_iff.1 ha
    refine ⟨hk _,fun j v hj=>?_⟩
    have e:kk=k:=(h4 i hlt).symm.trans (hk _)
    subst e
    exact ⟨us i j,(h5 i hlt j v hj).1,(h5 i hlt j v hj).2,h6 i hlt j v hj⟩)
   simp only [List.length_map] at key
   exact ⟨_,key⟩
 cases y<;>simp only [elsOf,Option.some.injEq,reduceCtorEq] at he<;>simp only [elN] at hn
 case sl α enc l=>subst he;exact sl hy hn
 case nil=>subst he;cases hy;exact ⟨[],src_nil⟩
 case str s =>
  subst he;subst hn
  cases hy
  refine ⟨s.map fun b=>Value.int .u8 b.toNat,fun w'=>by simp [Builtin.lenOf,Gw.str,str_size],by simp,fun w' _=>?_,fun x hx=>?_,fun i x hi=>?_⟩
  ·have:=src_str (P:=P) s w'
   simpa using this
  ·simp only [List.mem_map] at hx;obtain ⟨b,_,rfl⟩:=hx;rfl
  ·simp only [List.getElem?_map,Option.map_eq_some_iff] at hi
   obtain ⟨b,hb,rfl⟩:=hi
   refine ⟨rfl,fun j v hj=>?_⟩
   have hj0:j=0:=by
    rcases Nat.eq_zero_or_pos j with h|h
    ·exact h
    ·rw [List.getElem?_eq_none (by simp [byteV,V.cells];omega)] at hj;cases hj
   subst hj0
   simp [byteV,V.cells] at hj
   subst hj
   exact ⟨.int .u8 b.toNat,by simp [hb],rfl,.int⟩
 case own r =>
  split at he
  ·rename_i kk els hr
   cases he
   rw [hr] at hn
   have e:kk=k:=Nat.eq_of_beq_eq_true hn
   subst e
   rw [nth_eq] at hr
   obtain ⟨ob,cap,h1,h2,h3,h4,h5⟩:=C.rok.row r _ hr
   cases hy with
   | own h =>
    rw [h1] at h;cases h
    cases ob with
    | none =>
     have:=h4 rfl
     have:ys=[]:=List.length_eq_zero_iff.1 (by omega)
     subst this
     exact ⟨[],src_nil⟩
    | some b =>
     obtain ⟨arr,T,fz,h6,h7,h8,h9⟩:=h5 b rfl
     exact ⟨_,src_block (b:=b) (off:=0) (arr:=arr) (T:=T) (C.sit.own _ _ h6).2.1 (fun i x hi=>by simpa using h8 i x hi)⟩
  ·rename_i α enc l hr
   cases he
   rw [hr] at hn
   rw [nth_eq] at hr
   exact sl (C.own_fz hr hy) hn
  ·cases he
theorem els_sl {els:List V} {α:Type} {enc : α→V} {l:List α} {k b cap:Nat} {arr:Array Value} {T:TypeId} {fz:Nat × Nat} {q:Loc} (hl:LeL els (l.map enc)) (hb:m b=some (.cells arr T fz)) (he:ElsR m k els arr) (h2:els.length≤cap) (h3:cap≤MAXL) :
  VR m q (.sl enc l) (.slice (some ⟨b,0,none⟩) l.length cap):=by
 have hlen:els.length=l.length:=by have:=hl.len;simpa using this
 have hcell:∀ i (h:i < l.length) (j:Nat) v,(enc l[i]).cells[j]?=some v→∃ u,arr[i*k+j]?=some u∧u.oneCell'=true∧VR m noLoc v u:=fun i h j v e=>by
  have e1:els[i]?=some els[i]:=List.getElem?_eq_getElem (by omega)
  have e2:(l.map enc)[i]?=some (enc l[i]):=by simp [h]
  have hh:=hl.el i _ _ e1 e2
  have hj:j < (els[i]'(by omega)).cells.length:=by rw [hh.1];exact (List.getElem?_eq_some_iff.1 e).1
  have e3:(els[i]'(by omega)).cells[j]?=some (els[i]'(by omega)).cells[j]:=List.getElem?_eq_getElem hj
  obtain ⟨u,g1,g2,g3⟩:=(he i _ e1).2 j _ e3
  exact ⟨u,g1,g2,hh.2 j _ v e3 e m u g3⟩
 refine VR.sl (b:=b) (off:=0) (arr:=arr) (T:=T) (fz:=fz) (cap:=cap) (k:=k) (fun i j=>(arr[i*k+j]?).getD undef) (by omega) h3 hb (fun i h=>?_) (fun i h j v e=>?_) (fun i h j v e=>?_)
 ·have e1:els[i]?=some els[i]:=List.getElem?_eq_getElem (by omega)
  have e2:(l.map enc)[i]?=some (enc l[i]):=by simp [h]
  rw [←(hl.el i _ _ e1 e2).1]
  exact (he i _ e1).1
 ·obtain ⟨u,g1,g2,g3⟩:=hcell i h j v e
  simp only [Nat.zero_add,g1,Option.getD_some,true_and];exact g2
 ·obtain ⟨u,g1,g2,g3⟩:=hcell i h j v e
  simp only [g1,Option.getD_some];exact g3
theorem run_append_in {T U E k e n n2 cap b:Nat} {z:Value} {g:Bool} {us:TypeDesc} {xv:Value} {new:List Value} {arr:Array Value} {E':TypeId} {fz:Nat × Nat} (hT:P.underlying T=some (.slice E)) (hE:tyOf P E=some (z, k, e, g)) (hU:P.underlying U=some us) (hus:notInt us=true)
  (hlen:(Builtin.lenOf xv).run P w=.ok n2 w) (hnew:(Builtin.firstCells k n2 xv).run P w=.ok new.toArray w) (h1:∀ u∈new,u.oneCell'=true) (hb:w.heap[b]?=some (.cells arr E' fz)) (hz:noFz arr.size fz) (hs:n*k+new.length≤arr.size) (hc:n+n2≤cap) (typ:TypeId) :
  ∃ w',(Builtin.append_ #[T,U] typ #[.slice (some ⟨b,0,none⟩) n cap,xv]).run P w=.ok (.slice (some ⟨b,0,none⟩) (n+n2) cap) w'∧Bel [b] w w'∧w'.heap[b]?=some (.cells (putL arr (n*k) new) E' fz):=by
 obtain ⟨i,u,hi,hu,hiz,hik,hie,hg⟩:=tyOf_parts hE
 obtain ⟨w',hr,hbel,hh⟩:=run_storeCells (P:=P) new w (n*k) 0 arr hb hz (by simpa using hs) h1
 refine ⟨w',?_,hbel,by simpa using hh⟩
 simp only [Builtin.append_]
 simp only [show (#[T,U]:Array TypeId)[0]?=some T from rfl,show (#[T,U]:Array TypeId)[1]?=some U from rfl,show (#[Value.slice (some ⟨b,0,none⟩) n cap,xv]:Array Value)[0]?=some (Value.slice (some ⟨b,0,none⟩) n cap) from rfl,show (#[Value.slice (some ⟨b,0,none⟩) n cap,xv]:Array Value)[1]?=some xv from rfl]
 cases us<;>first
  | (exfalso;revert hus;simp [notInt];done)
  | (simp only [Sem.run_bind,run_underlying hT,run_underlying hU,Result.andThen_ok,run_sizeOf hE,Sem.run_pure,Bool.false_eq_true,if_false,hlen,Bool.not_false,if_true,if_pos hc,hnew,add_none,Nat.zero_add,hr];done)
theorem run_append_new {T U E k e n n2 cap:Nat} {oa:Option Addr} {z:Value} {g:Bool} {us:TypeDesc} {xv:Value} {old new:List Value} (hT:P.underlying T=some (.slice E)) (hE:tyOf P E=some (z, k, e, g)) (hU:P.underlying U=some us) (hus:notInt us=true) (he:1≤e)
  (hlen:(Builtin.lenOf xv).run P w=.ok n2 w) (hold:(Builtin.firstCells k n (.slice oa n cap)).run P w.drew=.ok old.toArray w.drew) (hnew:(Builtin.firstCells k n2 xv).run P w.drew=.ok new.toArray w.drew) (hc:cap < n+n2) (hb:(n+n2)*e≤140737488355328) (typ:TypeId) :
  ∃ nc,n+n2≤nc∧nc≤MAXL∧(Builtin.append_ #[T,U] typ #[.slice oa n cap,xv]).run P w=.ok (.slice (some ⟨w.heap.size,0,none⟩) (n+n2) nc) (w.drew.alloc (.cells (old.toArray++new.toArray++Builtin.zeroCells z.cells (nc-(n+n2))) E)):=by
 obtain ⟨i,u,hi,hu,hiz,hik,hie,hg⟩:=tyOf_parts hE
 have hfit:=growslice_fits (need:=n+n2) (old:=cap) (bytes:=e) hc hb
 have hmul:(n+n2)*1≤(n+n2)*e:=Nat.mul_le_mul_left _ he
 have h63:¬ (((n+n2:Nat):Int) > IntKind.i64.max∧(false=true∨e=0)):=by
  rintro ⟨_,h|h⟩
  ·cases h
  ·omega
 have h63':¬ (((n+n2:Nat):Int) > IntKind.i64.max∧(False∨e=0)):=by
  rintro ⟨_,h|h⟩
  ·exact h
  ·omega
 have h48:¬ (Builtin.nextslicecap (n+n2) cap*e > 2 ^ 48):=by omega
 let nc:=(Question.appendCap (n+n2) cap E).cut (w.tape w.drawn (.appendCap (n+n2) cap E))
 have hnc:n+n2≤nc:=by show n+n2≤_;simp only [Question.cut,nc];omega
 have hnc2:nc≤9223372036854775807:=by
  have h:=Nat.mod_lt (w.tape w.drawn (.appendCap (n+n2) cap E)) (show 0 < 2 ^ 63-(n+n2) by omega)
  show (n+n2)+_ % (2 ^ 63-(n+n2))≤_
  omega
 refine ⟨nc,hnc,hnc2,?_⟩
 have hq:(choose (.appendCap (n+n2) cap E)).run P w=.ok nc w.drew:=by
  simp only [run_choose,Question.forced,Bool.false_eq_true,if_false];rfl
 have hti:∀ w,(typeInfo E).run P w=.ok i w:=fun w=>by simp [typeInfo,hi]
 have hc':¬ (n+n2≤cap):=by omega
 simp only [Builtin.append_]
 simp only [show (#[T,U]:Array TypeId)[0]?=some T from rfl,show (#[T,U]:Array TypeId)[1]?=some U from rfl,show (#[Value.slice oa n cap,xv]:Array Value)[0]?=some (Value.slice oa n cap) from rfl,show (#[Value.slice oa n cap,xv]:Array Value)[1]?=some xv from rfl]
 cases us<;>first
  | (exfalso;revert hus;simp [notInt];done)
  | (simp only [Sem.run_bind,run_underlying hT,run_underlying hU,Result.andThen_ok,run_sizeOf hE,Sem.run_pure,Bool.false_eq_true,if_false,hlen,Bool.not_false,if_true,if_neg hc',hti,hie,if_neg h63,if_neg h63',if_neg h48,hq,run_askRoom,hold,hnew,run_zero hE,newRow,run_newObj];rfl)
theorem ElsR.app {k:Nat} {els ys:List V} {arr arr':Array Value} {new:List Value} {u:Value} (he:ElsR m k els arr) (hs:Src P m w k ys u new) (hold:∀ x,x < els.length*k→arr'[x]?=arr[x]?) (hnew:∀ x,x < ys.length*k→arr'[els.length*k+x]?=new[x]?):ElsR m k (els++ys) arr':=fun i x hi=>by
 rcases Nat.lt_or_ge i els.length with h|h
 ·rw [List.getElem?_append_left h] at hi
  obtain ⟨h1,h2⟩:=he i x hi
  refine ⟨h1,fun j v hj=>?_⟩
  obtain ⟨u',g1,g2⟩:=h2 j v hj
  have hjk:j < k:=by rw [←h1];exact (List.getElem?_eq_some_iff.1 hj).1
  exact ⟨u',by rw [hold _ (index_lt h hjk)];exact g1,g2⟩
 ·rw [List.getElem?_append_right h] at hi
  obtain ⟨h1,h2⟩:=hs.el _ x hi
  refine ⟨h1,fun j v hj=>?_⟩
  obtain ⟨u',g1,g2⟩:=h2 j v hj
  have hjk:j < k:=by rw [←h1];exact (List.getElem?_eq_some_iff.1 hj).1
  have hlt:=(List.getElem?_eq_some_iff.1 hi).1
  refine ⟨u',?_,g2⟩
  rw [←g1,←hnew _ (index_lt hlt hjk)]
  congr 1
  have:i*k=els.length*k+(i-els.length)*k:=by rw [←Nat.add_mul];congr 1;omega
  omega
theorem getElem_app3 {a b c:Array Value} {x:Nat} (h:x < a.size+b.size):(a++b++c)[x]?=if x < a.size then a[x]? else b[x-a.size]?:=by
 rw [Array.getElem?_append_left (by simpa using h)]
 split
 ·rename_i h';rw [Array.getElem?_append_left h']
 ·rename_i h';rw [Array.getElem?_append_right (by omega)]
end
end Gv
end PartV5
section PartV6
namespace Gv
open Go Go.RowKit Gw
variable [Glob]
section
variable {w0:Start} {w w':World} {m0 R m:Mem} {q:Loc} {rows:Rows} {E:Env} {K:V→Rows→Prop}
theorem putL_old {arr:Array Value} {o:Nat} {new:List Value} (h:o+new.length≤arr.size) {x:Nat} (hx:x < o):(putL arr o new)[x]?=arr[x]?:=by
 rw [get_putL arr o new h,if_pos hx]
theorem putL_new {arr:Array Value} {o:Nat} {new:List Value} (h:o+new.length≤arr.size) {x:Nat} (hx:x < new.length):(putL arr o new)[o+x]?=new[x]?:=by
 rw [get_putL arr o new h,if_neg (by omega),if_pos (by omega)]
 congr 1;omega
theorem Cf.move (C:Cf w0 m0 rows R m q w) {r:Nat} {x:Row} {b n c k:Nat} {y:Row} {n' c' k':Nat} {o':Obj} {w':World} (hr:rows[r]?=some x) (hx:x.mut=true) (hq:q r=some (some b, n, c, k)) (S':Sit w0 m0 (R.put b o') m w')
  (hy:RowOK (R.put b o') m (q.add rows.length (some b,n',c',k')) rows.length y) (hx1:x.one=true:=by rfl) (hy1:y.one=true:=by rfl):Cf w0 m0 (rows.set r .dead++[y]) (R.put b o') m (q.add rows.length (some b,n',c',k')) w':=by
 have hlt:r < rows.length:=(List.getElem?_eq_some_iff.1 hr).1
 have hlen:(rows.set r Row.dead).length=rows.length:=by simp
 have hqq:=C.le_add (some b,n',c',k')
 have C2:Cf w0 m0 (rows.set r .dead) (R.put b o') m q w' :=
  C.set hr S' (Mem.Le.refl m) (fun h=>by cases h) (fun b' ⟨r',y',f1,f2,f3,f4⟩=>by
   unfold Mem.put
   rw [if_neg]
   intro e;subst e
   exact f1 (C.rok.apart r' r y' _ b' f2 hr f3 hx f4 (occ_one hx1 hq))) trivial
 have old:∀ (j:Nat) z,(rows.set r .dead++[y])[j]?=some z→(j < rows.length∧j≠r∧rows[j]?=some z)∨(j=r∧z=.dead)∨(j=rows.length∧z=y):=fun j z hj=>by
  rcases Nat.lt_or_ge j rows.length with h'|h'
  ·rw [List.getElem?_append_left (by rw [hlen];exact h')] at hj
   by_cases ej:r=j
   ·subst ej;rw [List.getElem?_set_self hlt] at hj;cases hj;exact .inr (.inl ⟨rfl,rfl⟩)
   ·rw [List.getElem?_set_ne ej] at hj;exact .inl ⟨h',fun h=>ej h.symm,hj⟩
  ·rw [List.getElem?_append_right (by rw [hlen];exact h'),hlen] at hj
   have:j-rows.length=0:=by
    rcases Nat.eq_zero_or_pos (j-rows.length) with e|e
    ·exact e
    ·rw [List.getElem?_eq_none (by simp;omega)] at hj;cases hj
   rw [this] at hj
   simp at hj
   exact .inr (.inr ⟨by omega,hj.symm⟩)
 refine ⟨S',fun j z hz=>?_,fun j z hz=>?_,fun j j' z z' b' hz hz' hm hm' hb1 hb2=>?_⟩
 ·unfold Loc.add at hz
  split at hz
  ·rename_i ej;subst ej;simp
  ·have:=C.rok.fresh j z hz;simp;omega
 ·rcases old j z hz with ⟨f1,f2,f3⟩|⟨f1,f2⟩|⟨f1,f2⟩
  ·refine (C2.rok.row j z (by rw [List.getElem?_set_ne (fun h=>f2 h.symm)];exact f3)).up (Mem.Le.refl m) hqq fun _ _ _=>rfl
  ·subst f2;trivial
  ·subst f2;rw [f1];exact hy
 ·have loc : ∀ (j : Nat) z (b' : Nat), (rows.set r .dead ++ [y])[j]? = some z → z.mut = true → Occ (q.add rows.length (some b, n', c', k')) j z b' →
      (j≠rows.length∧b'≠b∧rows[j]?=some z∧Occ q j z b')∨(j=rows.length∧b'=b):=fun j z b' hz hm hb=>by
   rcases old j z hz with ⟨f1,f2,f3⟩|⟨f1,f2⟩|⟨f1,f2⟩
   ·have hq9:=occ_q (q':=q) (r':=j) (show q j=(q.add rows.length (some b,n',c',k')) j from (if_neg (by omega)).symm) hb
    exact .inl ⟨by omega,fun eb=>f2 (C.rok.apart j r z _ b' f3 hr hm hx hq9 (by rw [eb];exact occ_one hx1 hq)),f3,hq9⟩
   ·subst f2;cases hm
   ·subst f2
    obtain ⟨n1,c1,k1,hb⟩:=occ_inv hy1 hb
    unfold Loc.add at hb
    rw [if_pos f1] at hb
    cases hb
    exact .inr ⟨f1,rfl⟩
  rcases loc j z b' hz hm hb1 with ⟨f1,f2,f3,f4⟩|⟨f1,f2⟩<;>rcases loc j' z' b' hz' hm' hb2 with ⟨f5,f6,f7,f8⟩|⟨f5,f6⟩
  ·exact C.rok.apart j j' z z' b' f3 f7 hm hm' f4 f8
  ·exact absurd f6 f2
  ·exact absurd f2 f6
  ·omega
theorem appO_ok (H:EnvOK E) (C:Cf w0 m0 rows R m q w) {T U:Nat} {us:TypeDesc} {x y:V} {ux uy:Value} (hx:VR m q x ux) (hy:VR m q y uy) (hU:E.P.underlying U=some us) (hus:notInt us=true) (h:appO E T x y rows K) (typ:TypeId) :
  ∃ u w',(Builtin.append_ #[T,U] typ #[ux,uy]).run E.P w=.ok u w'∧After w0 m0 m q K u w':=by
 unfold appO at h
 replace h:=tiK_ok H h
 obtain ⟨i,h,hT,-,d,hd,hk⟩:=h
 split at h
 case h_2=>exact h.elim
 rename_i El hkind
 rw [hkind] at hk
 rw [kind_slice hk] at hd
 replace h:=tiK_ok H h
 obtain ⟨e,h,hE,hz,-⟩:=h
 split at h
 case h_2=>exact h.elim
 rename_i hble
 have he1:1≤e.bytes:=by simpa [Nat.ble_eq] using hble
 obtain ⟨hn,h⟩:=h
 split at h
 case h_2=>exact h.elim
 rename_i ys hys
 obtain ⟨new,S⟩:=C.src (P:=E.P) hy hn hys
 have fresh : ∀ (oa : Option Addr) (els : List V) (cap : Nat) (old : List Value) (rows' : Rows), ux = .slice oa els.length cap → cap < els.length + ys.length → (els.length + ys.length) * e.bytes ≤ 140737488355328 →
     (Builtin.firstCells e.size els.length ux).run E.P w.drew=.ok old.toArray w.drew→old.length=els.length*e.size→ElsR m e.size els old.toArray→Cf w0 m0 rows' R m q w →
     K (.own rows'.length) (rows'++[.row e.size (els++ys)]) →
     ∃ u w',(Builtin.append_ #[T,U] typ #[ux,uy]).run E.P w=.ok u w'∧After w0 m0 m q K u w':=by
  intro oa els cap old rows' hux hc hb hold hol hels C' hK
  subst hux
  obtain ⟨nc,h1,h2,hr⟩:=run_append_new (P:=E.P) (w:=w) hd hE hU hus he1 (S.len w) hold (S.run w.drew rfl) hc hb typ
  refine ⟨_,_,hr,?_⟩
  let arr':Array Value:=old.toArray++new.toArray++Builtin.zeroCells e.zero.cells (nc-(els.length+ys.length))
  have hnl:=S.size
  have hsz:arr'.size=nc*e.size:=by
   have:nc*e.size=(els.length+ys.length)*e.size+(nc-(els.length+ys.length))*e.size:=by rw [←Nat.add_mul];congr 1;omega
   rw [this,Nat.add_mul]
   simp [arr',zeroCells_size,hz,hol,hnl]
   omega
  have hget:∀ x,x < old.length+new.length→arr'[x]?=if x < old.length then old[x]? else new[x-old.length]?:=fun x hx=>by
   have:=getElem_app3 (a:=old.toArray) (b:=new.toArray) (c:=Builtin.zeroCells e.zero.cells (nc-(els.length+ys.length))) (x:=x) (by simpa using hx)
   rw [show arr'=old.toArray++new.toArray++Builtin.zeroCells e.zero.cells (nc-(els.length+ys.length)) from rfl,this]
   simp
  have hE' : ElsR m e.size (els ++ ys) arr' := hels.app S (fun x hx => by
      rw [hget x (by omega),if_pos (by omega)];simp) (fun x hx=>by
      rw [hget _ (by omega),if_neg (by omega)];congr 1;omega)
  have C2:=C'.row (Bel.drew [] w) (els:=els++ys) (k:=e.size) (cap:=nc) (arr:=arr') El hsz (by simpa using h1) h2 hE'
  refine ⟨_,_,_,_,_,hK,C2,Mem.Le.refl m,C'.le_add _,?_⟩
  have:=VR.own (m:=m) (add_self q rows'.length (some w.drew.heap.size,(els++ys).length,nc,e.size))
  simpa using this
 cases x<;>try (exact False.elim h)
 case nil =>
  obtain ⟨hb,h⟩:=h
  have h:=pushK_ok _ _ _ _ h
  rw [Nat.zero_add] at h
  cases hx
  by_cases h0:ys=[]
  ·subst h0
   have hr:(Builtin.append_ #[T,U] typ #[.slice none 0 0,uy]).run E.P w=.ok (.slice none 0 0) w:=by
    have h2:=S.size
    simp at h2
    subst h2
    have hl:=S.len w
    have hrun:=S.run w rfl
    simp only [List.length_nil] at hl hrun
    simp only [Builtin.append_]
    simp only [show (#[T,U]:Array TypeId)[0]?=some T from rfl,show (#[T,U]:Array TypeId)[1]?=some U from rfl,show (#[Value.slice none 0 0,uy]:Array Value)[0]?=some (Value.slice none 0 0) from rfl,show (#[Value.slice none 0 0,uy]:Array Value)[1]?=some uy from rfl]
    cases us<;>first
     | (exfalso;revert hus;simp [notInt];done)
     | (simp only [Sem.run_bind,run_underlying hd,run_underlying hU,Result.andThen_ok,run_sizeOf hE,Sem.run_pure,Bool.false_eq_true,if_false,hl,Bool.not_false,if_true,if_pos (show 0+0≤0 by omega),hrun];done)
   exact ⟨_,_,hr,_,_,_,_,_,h,C.row0 e.size,Mem.Le.refl m,C.le_add _,VR.own (add_self _ _ _)⟩
  ·have hpos:0 < ys.length:=List.length_pos_iff.2 h0
   exact fresh none [] 0 [] rows rfl (by simpa using hpos) (by simpa using hb) (by simp [Builtin.firstCells]) (by simp) (fun i x hi=>by simp at hi) C (by simpa using h)
 case own r =>
  simp only at h
  split at h
  case h_2=>exact h.elim
  rename_i kk els hrow
  split at h
  case h_2=>exact h.elim
  rename_i hkk
  have hkk:=Nat.eq_of_beq_eq_true hkk
  subst hkk
  obtain ⟨hb,h⟩:=h
  obtain ⟨hlt,h⟩:=setK_ok _ _ _ _ h
  have h:=pushK_ok _ _ _ _ h
  rw [Nat.zero_add] at h
  rw [nth_eq] at hrow
  obtain ⟨ob,cap,g1,g2,g3,g4,g5⟩:=C.rok.row r _ hrow
  cases hx with
  | own hq =>
   rw [g1] at hq;cases hq
   have C':=C.kill hrow
   by_cases hc:els.length+ys.length≤cap
   ·cases ob with
    | none =>
     have:=g4 rfl
     subst this
     have e1:els=[]:=List.length_eq_zero_iff.1 (by omega)
     have e2:ys=[]:=List.length_eq_zero_iff.1 (by omega)
     subst e1 e2
     have hr:(Builtin.append_ #[T,U] typ #[.slice none 0 0,uy]).run E.P w=.ok (.slice none 0 0) w:=by
      have h2:=S.size
      simp at h2
      subst h2
      have hl:=S.len w
      have hrun:=S.run w rfl
      simp only [List.length_nil] at hl hrun
      simp only [Builtin.append_]
      simp only [show (#[T,U]:Array TypeId)[0]?=some T from rfl,show (#[T,U]:Array TypeId)[1]?=some U from rfl,show (#[Value.slice none 0 0,uy]:Array Value)[0]?=some (Value.slice none 0 0) from rfl,show (#[Value.slice none 0 0,uy]:Array Value)[1]?=some uy from rfl]
      cases us<;>first
       | (exfalso;revert hus;simp [notInt];done)
       | (simp only [Sem.run_bind,run_underlying hd,run_underlying hU,Result.andThen_ok,run_sizeOf hE,Sem.run_pure,Bool.false_eq_true,if_false,hl,Bool.not_false,if_true,if_pos (show 0+0≤0 by omega),hrun];done)
     exact ⟨_,_,hr,_,_,_,_,_,h,C'.row0 e.size,Mem.Le.refl m,C'.le_add _,VR.own (add_self _ _ _)⟩
    | some b =>
     obtain ⟨arr,T',fz,a1,a2,a3,a4⟩:=g5 b rfl
     have hnl:=S.size
     have hmul:(els.length+ys.length)*e.size≤cap*e.size:=Nat.mul_le_mul_right _ hc
     have hfit:els.length*e.size+new.length≤arr.size:=by rw [hnl,a2,←Nat.add_mul];exact hmul
     obtain ⟨w',hr,hbel,hh⟩:=run_append_in (P:=E.P) (typ:=typ) hd hE hU hus (S.len w) (S.run w rfl) S.one (C.sit.own _ _ a1).2.1 a4.1 hfit hc
     refine ⟨_,_,hr,?_⟩
     have S':=C.sit.write a1 hbel hh
     have hnew:RowOK (R.put b (.cells (putL arr (els.length*e.size) new) T' fz)) m (q.add rows.length (some b,(els++ys).length,cap,e.size)) rows.length (.row e.size (els++ys)):=by
      refine ⟨some b,cap,add_self _ _ _,by simpa using hc,g3,(fun h=>by cases h),fun b' hb'=>?_⟩
      cases hb'
      refine ⟨_,T',fz,by simp [Mem.put],by rw [size_putL];exact a2,a3.app S (fun x hx=>putL_old hfit hx) (fun x hx=>putL_new hfit (by omega)),by rw [size_putL];exact a4⟩
     have C3:=C.move hrow rfl g1 S' hnew
     have h':K (.own rows.length) (rows.set r .dead++[.row e.size (els++ys)]):=by simpa using h
     refine ⟨_,_,_,_,_,h',C3,Mem.Le.refl m,C.le_add _,(by have:=VR.own (m:=m) (add_self q rows.length (some b,(els++ys).length,cap,e.size));simpa using this)⟩
   ·have hc':cap < els.length+ys.length:=by omega
    cases ob with
    | none =>
     have:=g4 rfl
     subst this
     have e1:els=[]:=List.length_eq_zero_iff.1 (by omega)
     subst e1
     exact fresh none [] 0 [] _ rfl hc' hb (by simp [Builtin.firstCells]) (by simp) (fun i x hi=>by simp at hi) C' h
    | some b =>
     obtain ⟨arr,T',fz,a1,a2,a3,a4⟩:=g5 b rfl
     have hblk:=(C.sit.own _ _ a1).2.1
     have S2:=src_block (P:=E.P) (m:=m) (w:=w) (b:=b) (off:=0) (k:=e.size) (cap:=cap) (ys:=els) hblk (fun i x hi=>by simpa using a3 i x hi)
     refine fresh (some ⟨b,0,none⟩) els cap _ _ rfl hc' hb (S2.run w.drew rfl) S2.size (fun i x hi=>?_) C' h
     refine ⟨(S2.el i x hi).1,fun j v hj=>?_⟩
     obtain ⟨u',f1,f2⟩:=(S2.el i x hi).2 j v hj
     exact ⟨u',by simpa using f1,f2⟩
end
end Gv
end PartV6
section PartV7
namespace Gv
open Go Go.RowKit Gw
variable [Glob]
section
variable {w0:Start} {w w':World} {m0 R m:Mem} {q:Loc} {rows:Rows} {E:Env} {K:V→Rows→Prop} {P:Program}
theorem VRL.getElem {vs:List V} {us:List Value} (h:VRL m q vs us) {j:Nat} {v:V} (hv:vs[j]?=some v):∃ u,us[j]?=some u∧VR m q v u:=by
 have hj:j < us.length:=by rw [←h.len];exact (List.getElem?_eq_some_iff.1 hv).1
 exact ⟨us[j],List.getElem?_eq_getElem hj,h.el j v us[j] hv (List.getElem?_eq_getElem hj)⟩
theorem putLL_get {l:List V} {o:Nat} {vs:List V} (h:o+vs.length≤l.length) (k:Nat):(putLL l o vs)[k]?=if k < o then l[k]? else if k < o+vs.length then vs[k-o]? else l[k]?:=by
 unfold putLL
 by_cases h1:k < o
 ·rw [if_pos h1,List.append_assoc,List.getElem?_append_left (by simp;omega),List.getElem?_take,if_pos h1]
 ·rw [if_neg h1]
  by_cases h2:k < o+vs.length
  ·rw [if_pos h2,List.getElem?_append_left (by simp;omega),List.getElem?_append_right (by simp;omega)]
   congr 1;simp;omega
  ·rw [if_neg h2,List.getElem?_append_right (by simp;omega),List.getElem?_drop]
   congr 1;simp;omega
theorem putLL_len {l:List V} {o:Nat} {vs:List V} (h:o+vs.length≤l.length):(putLL l o vs).length=l.length:=by
 unfold putLL;simp;omega
theorem CellsR.put {cells:List V} {arr:Array Value} {o:Nat} {vs:List V} {us:List Value} (h:CellsR m q cells arr) (hv:VRL m q vs us) (h1:∀ x∈us,x.oneCell'=true) (ho:o+vs.length≤cells.length):CellsR m q (putLL cells o vs) (putL arr o us):=by
 have hl:=hv.len
 have hs:=h.1
 have hfit:o+us.length≤arr.size:=by omega
 refine ⟨by rw [size_putL,putLL_len ho];exact hs,fun j v e=>?_⟩
 rw [putLL_get ho] at e
 rw [get_putL arr o us hfit]
 split at e
 ·rename_i hj;rw [if_pos hj];exact h.2 j v e
 ·rename_i hj
  rw [if_neg hj]
  split at e
  ·rename_i hj2
   rw [if_pos (by omega)]
   obtain ⟨u,g1,g2⟩:=hv.getElem e
   exact ⟨u,g1,h1 u (List.mem_of_getElem? g1),g2⟩
  ·rename_i hj2
   rw [if_neg (by omega)]
   exact h.2 j v e
theorem run_storeVar {T:Nat} {z:Value} {s by_:Nat} {g:Bool} {u:Value} {us:List Value} {b o:Nat} {arr:Array Value} {T':TypeId} {fz:Nat × Nat} (hT:tyOf P T=some (z, s, by_, g)) (hu:u.cells=us.toArray) (hl:us.length=s) (h1:∀ x∈us, x.oneCell'=true)
  (hb:w.heap[b]?=some (.cells arr T' fz)) (hz:noFz arr.size fz) (ho:o+us.length≤arr.size):∃ w',(storeVar T ⟨b,o,none⟩ u).run P w=.ok () w'∧Bel [b] w w'∧w'.heap[b]?=some (.cells (putL arr o us) T' fz):=by
 obtain ⟨w',hr,h2,h3⟩:=run_storeCells (P:=P) us w o 0 arr hb hz (by simpa using ho) h1
 refine ⟨w',?_,h2,by simpa using h3⟩
 unfold storeVar
 simp [hu,run_sizeOf hT,hl,hr]
theorem ElsQ.set {qq:Loc} {k:Nat} {els:List V} {arr:Array Value} {us:List Value} {j o:Nat} {x y:V} {vs:List V} (he:ElsQ m qq k els arr) (hx:els[j]?=some x) (hy:y.cells=putLL x.cells o vs) (ho:o+vs.length≤x.cells.length)
  (hv:VRL m qq vs us) (h1:∀ x∈us,x.oneCell'=true) (hs:els.length*k≤arr.size):ElsQ m qq k (els.set j y) (putL arr (j*k+o) us):=by
 have hj:=(List.getElem?_eq_some_iff.1 hx).1
 have hxk:=(he j x hx).1
 have hl:=hv.len
 have hfit:j*k+o+us.length≤arr.size:=by
  have:(j+1)*k≤els.length*k:=Nat.mul_le_mul_right _ hj
  rw [Nat.add_mul] at this;omega
 intro i z hz
 by_cases hij:j=i
 ·subst hij
  rw [List.getElem?_set_self hj] at hz
  cases hz
  refine ⟨by rw [hy,putLL_len ho];exact hxk,fun c v hc=>?_⟩
  have hck:c < k:=by rw [←hxk,←putLL_len ho,←hy];exact (List.getElem?_eq_some_iff.1 hc).1
  rw [hy,putLL_get ho] at hc
  rw [get_putL arr _ us hfit]
  split at hc
  ·rename_i h;rw [if_pos (by omega)];exact (he j x hx).2 c v hc
  ·rename_i h
   rw [if_neg (by omega)]
   split at hc
   ·rename_i h2
    rw [if_pos (by omega)]
    obtain ⟨u,g1,g2⟩:=hv.getElem hc
    exact ⟨u,by rw [←g1];congr 1;omega,h1 u (List.mem_of_getElem? g1),g2⟩
   ·rename_i h2;rw [if_neg (by omega)];exact (he j x hx).2 c v hc
 ·rw [List.getElem?_set_ne hij] at hz
  refine ⟨(he i z hz).1,fun c v hc=>?_⟩
  obtain ⟨u,g1,g2⟩:=(he i z hz).2 c v hc
  have hck:c < k:=by rw [←(he i z hz).1];exact (List.getElem?_eq_some_iff.1 hc).1
  refine ⟨u,?_,g2⟩
  rw [←g1,get_putL arr _ us hfit]
  rcases Nat.lt_or_gt_of_ne hij with hlt|hgt
  ·have:(j+1)*k≤i*k:=Nat.mul_le_mul_right _ hlt
   rw [Nat.add_mul] at this
   rw [if_neg (by omega),if_neg (by omega)]
  ·have:(i+1)*k≤j*k:=Nat.mul_le_mul_right _ hgt
   rw [Nat.add_mul] at this
   rw [if_pos (by omega)]
theorem ElsR.set {k:Nat} {els:List V} {arr:Array Value} {us:List Value} {j o:Nat} {x y:V} {vs:List V} (he:ElsR m k els arr) (hx:els[j]?=some x) (hy:y.cells=putLL x.cells o vs) (ho:o+vs.length≤x.cells.length)
  (hv:VRL m noLoc vs us) (h1:∀ x∈us,x.oneCell'=true) (hs:els.length*k≤arr.size):ElsR m k (els.set j y) (putL arr (j*k+o) us):=ElsQ.set (qq:=noLoc) he hx hy ho hv h1 hs
theorem VRL.pure {vs:List V} {us:List Value} (h:VRL m q vs us) (hp:allPure vs=true):VRL m noLoc vs us :=
 ⟨h.len,fun i v u h1 h2=>(h.el i v u h1 h2).free (allPure_ok _ hp v (List.mem_of_getElem? h1))⟩
theorem storeO_ok (H:EnvOK E) (C:Cf w0 m0 rows R m q w) {T:Nat} {a v:V} {ua uv:Value} {k:Rows→Prop} (ha:VR m q a ua) (hv:VR m q v uv) (h:storeO E T a v rows k) :
  ∃ p w' rows' R',ua=.pointer (some p)∧(storeVar T p uv).run E.P w=.ok () w'∧k rows'∧Cf w0 m0 rows' R' m q w':=by
 unfold storeO at h
 replace h:=tiK_ok H h
 obtain ⟨i,h,hT,-⟩:=h
 split at h
 case h_2=>exact h.elim
 rename_i r j o hsz hfl
 have hsz:=Nat.eq_of_beq_eq_true hsz
 obtain ⟨us,hu,hus,h1⟩:=cells_ok hv hfl
 have hul:us.length=i.size:=by rw [←hus.len,hsz]
 split at h
 ·rename_i cells hr
  split at h
  case h_2=>exact h.elim
  obtain ⟨ho,h⟩:=storeK_ok _ _ _ _ h
  obtain ⟨hlt,h⟩:=setK_ok _ _ _ _ h
  rw [nth_eq] at hr
  obtain ⟨b,arr,T',g1,g2,gT,g3⟩:=C.rok.row r _ hr
  cases ha with
  | ptr hq =>
   rw [g1] at hq;cases hq
   have hlen:=hus.len
   have hs:=g3.1
   obtain ⟨w',hr',hbel,hh⟩:=run_storeVar (P:=E.P) hT hu hul h1 (C.sit.own _ _ g2).2.1 (noFz0 _) (o:=o) (by omega)
   refine ⟨_,w',_,_,rfl,by simpa using hr',h,C.store hr rfl g1 g2 hbel hh ?_⟩
   refine ⟨b,_,T',by rw [putLL_len ho];exact g1,by simp [Mem.put],gT,g3.put hus h1 ho⟩
 ·rename_i kk els hr
  rw [nth_eq] at hr
  obtain ⟨ob,cap,g1,g2,g3,g4,g5⟩:=C.rok.row r _ hr
  have whole : ∀ (x y : V) (o' : Nat) (vs : List V), els[j]? = some x → vs = v.cells → allPure v.cells = true → y.cells = putLL x.cells o' vs → o' + vs.length ≤ x.cells.length → o = o' → k (rows.set r (.row kk (els.set j y))) →
      ∃ p w' rows' R',ua=.pointer (some p)∧(storeVar T p uv).run E.P w=.ok () w'∧k rows'∧Cf w0 m0 rows' R' m q w':=by
   intro x y o' vs hx hvs hp hy ho ho' hk
   subst ho' hvs
   have hj:=(List.getElem?_eq_some_iff.1 hx).1
   cases ha with
   | @ptr _ _ _ _ b len cap' k' hq =>
    rw [g1] at hq;cases hq
    obtain ⟨arr,T',fz,a1,a2,a3,a4⟩:=g5 b rfl
    have hmul:els.length*kk≤cap*kk:=Nat.mul_le_mul_right _ g2
    have hxk:=(a3 j x hx).1
    have hlen:=hus.len
    have hm2:(j+1)*kk≤els.length*kk:=Nat.mul_le_mul_right _ hj
    rw [Nat.add_mul] at hm2
    obtain ⟨w',hr',hbel,hh⟩:=run_storeVar (P:=E.P) hT hu hul h1 (C.sit.own _ _ a1).2.1 a4.1 (o:=j*kk+o) (by omega)
    refine ⟨_,w',_,_,rfl,hr',hk,C.store hr rfl g1 a1 hbel hh ?_⟩
    refine ⟨some b,cap,by rw [List.length_set];exact g1,by rw [List.length_set];exact g2,g3,g4,fun b' hb'=>?_⟩
    cases hb'
    exact ⟨_,T',fz,by simp [Mem.put],by rw [size_putL];exact a2,a3.set hx hy ho (hus.pure hp) h1 (by omega),by rw [size_putL];exact a4⟩
  split at h
  ·rename_i ho hq hp
   obtain ⟨hj,h⟩:=h
   obtain ⟨hlt,h⟩:=setK_ok _ _ _ _ h
   have ho:=Nat.eq_of_beq_eq_true ho
   have hq:=Nat.eq_of_beq_eq_true hq
   subst ho hq
   have hx:els[j]?=some els[j]:=List.getElem?_eq_getElem hj
   have hxl:els[j].cells.length=i.size:=by
    cases ha with
    | @ptr _ _ _ _ b len cap' k' hq =>
     rw [g1] at hq;cases hq
     obtain ⟨arr,T',fz,a1,a2,a3,a4⟩:=g5 b rfl
     exact (a3 j _ hx).1
   refine whole els[j] v 0 _ hx rfl hp ?_ (by omega) rfl h
   unfold putLL
   simp only [List.take_zero,List.nil_append,Nat.zero_add]
   rw [List.drop_of_length_le (by omega),List.append_nil]
  ·rename_i hp
   obtain ⟨x,hx,h⟩:=h
   obtain ⟨ho,h⟩:=storeK_ok _ _ _ _ h
   obtain ⟨hlt,h⟩:=setK_ok _ _ _ _ h
   exact whole x _ o _ hx rfl hp rfl ho rfl h
  ·rename_i hp
   obtain ⟨x,hx,h⟩:=h
   obtain ⟨ho,h⟩:=storeK_ok _ _ _ _ h
   obtain ⟨hlt,h⟩:=setK_ok _ _ _ _ h
   exact whole x _ o _ hx rfl hp rfl ho rfl h
  ·exact h.elim
 ·rename_i kk els hr
  rw [nth_eq] at hr
  obtain ⟨ob,cap,g1,g2,g3,g4,g5⟩:=C.rok.row r _ hr
  have whole : ∀ (x y : V) (o' : Nat) (vs : List V), els[j]? = some x → vs = v.cells → y.cells = putLL x.cells o' vs → o' + vs.length ≤ x.cells.length → o = o' → k (rows.set r (.rowq kk (els.set j y))) →
      ∃ p w' rows' R',ua=.pointer (some p)∧(storeVar T p uv).run E.P w=.ok () w'∧k rows'∧Cf w0 m0 rows' R' m q w':=by
   intro x y o' vs hx hvs hy ho ho' hk
   subst ho' hvs
   have hj:=(List.getElem?_eq_some_iff.1 hx).1
   cases ha with
   | @ptr _ _ _ _ b len cap' k' hq =>
    rw [g1] at hq;cases hq
    obtain ⟨arr,T',fz,a1,a2,a3,a4⟩:=g5 b rfl
    have hmul:els.length*kk≤cap*kk:=Nat.mul_le_mul_right _ g2
    have hxk:=(a3 j x hx).1
    have hlen:=hus.len
    have hm2:(j+1)*kk≤els.length*kk:=Nat.mul_le_mul_right _ hj
    rw [Nat.add_mul] at hm2
    obtain ⟨w',hr',hbel,hh⟩:=run_storeVar (P:=E.P) hT hu hul h1 (C.sit.own _ _ a1).2.1 a4.1 (o:=j*kk+o) (by omega)
    refine ⟨_,w',_,_,rfl,hr',hk,C.store hr rfl g1 a1 hbel hh ?_⟩
    refine ⟨some b,cap,by rw [List.length_set];exact g1,by rw [List.length_set];exact g2,g3,g4,fun b' hb'=>?_⟩
    cases hb'
    exact ⟨_,T',fz,by simp [Mem.put],by rw [size_putL];exact a2,a3.set hx hy ho hus h1 (by omega),by rw [size_putL];exact a4⟩
  split at h
  ·rename_i ho hq
   obtain ⟨hj,h⟩:=h
   obtain ⟨hlt,h⟩:=setK_ok _ _ _ _ h
   have ho:=Nat.eq_of_beq_eq_true ho
   have hq:=Nat.eq_of_beq_eq_true hq
   subst ho hq
   have hx:els[j]?=some els[j]:=List.getElem?_eq_getElem hj
   have hxl:els[j].cells.length=i.size:=by
    cases ha with
    | @ptr _ _ _ _ b len cap' k' hq =>
     rw [g1] at hq;cases hq
     obtain ⟨arr,T',fz,a1,a2,a3,a4⟩:=g5 b rfl
     exact (a3 j _ hx).1
   refine whole els[j] v 0 _ hx rfl ?_ (by omega) rfl h
   unfold putLL
   simp only [List.take_zero,List.nil_append,Nat.zero_add]
   rw [List.drop_of_length_le (by omega),List.append_nil]
  ·obtain ⟨x,hx,h⟩:=h
   obtain ⟨ho,h⟩:=storeK_ok _ _ _ _ h
   obtain ⟨hlt,h⟩:=setK_ok _ _ _ _ h
   exact whole x _ o _ hx rfl rfl ho rfl h
 ·exact h.elim
theorem zipFold:∀ (l:List Value) (cs:Array Value) (off k:Nat),(l.zipIdx k).foldl (fun cs (c,j)=>cs.setIfInBounds (off+j) c) cs=putL cs (off+k) l
 | [],cs,off,k=>rfl
 | v::r,cs,off,k=>by
  simp only [List.zipIdx_cons,List.foldl_cons,putL]
  rw [zipFold r _ off (k+1)]
  rfl
theorem fill_step {place:Nat→Option (Nat × Nat)} {cells:Array Value} {i off size:Nat} {u:Value} {us:List Value} {rest:List (Nat × Value)} (hp:place i=some (off, size)) (hu:u.cells=us.toArray) (hl:us.length=size) (ho:off+us.length≤cells.size) :
  Instr.fill place cells ((i,u)::rest)=Instr.fill place (putL cells off us) rest:=by
 rw [Instr.fill]
 simp only [hp,hu,List.size_toArray]
 rw [if_neg (by simp;omega)]
 have:(us.toArray.zipIdx.foldl (fun cs (c,j)=>cs.setIfInBounds (off+j) c) cells)=putL cells off us:=by
  have:=zipFold us cells off 0
  rw [Nat.add_zero] at this
  rw [←this]
  simp [Array.foldl_toList,←Array.foldl_toList]
 rw [this]
theorem placesL_ok (H:EnvOK E):∀ (fs:List (Nat × Nat)) (fields:List Field) (k:List (Nat × Nat)→Prop), fields.map (fun f => (f.type, f.offset))=fs→placesL E fs k →
  ∃ ps,k ps∧∀ w,(fields.mapM fun f=>(do pure (f.offset,←sizeOf f.type):Sem (Nat × Nat))).run E.P w=.ok ps w
 | [],fields,k,hf,h=>by
  obtain rfl:fields=[]:=by simpa using hf
  exact ⟨[],h,fun w=>rfl⟩
 | (T,off)::r,fields,k,hf,h=>by
  obtain ⟨f,fields',rfl⟩:∃ f fields',fields=f::fields':=by
   cases fields with
   | nil=>simp at hf
   | cons f fields'=>exact ⟨f,fields',rfl⟩
  simp only [List.map_cons,List.cons.injEq,Prod.mk.injEq] at hf
  obtain ⟨⟨rfl,rfl⟩,hf⟩:=hf
  unfold placesL at h
  obtain ⟨i,h,hT,-⟩:=tiK_ok H h
  obtain ⟨ps,h1,h2⟩:=placesL_ok H r fields' _ hf h
  exact ⟨_,h1,fun w=>by simp only [List.mapM_cons,Sem.run_bind,run_sizeOf hT,Result.andThen_ok,Sem.run_pure,h2 w]⟩
theorem VRL.put {cells:List V} {arr:List Value} {o:Nat} {vs:List V} {us:List Value} (h:VRL m q cells arr) (hv:VRL m q vs us) (ho:o+vs.length≤cells.length):VRL m q (putLL cells o vs) (putL arr.toArray o us).toList:=by
 have hl:=hv.len
 have hs:=h.len
 have hfit:o+us.length≤arr.toArray.size:=by simp;omega
 refine ⟨by simp [putLL_len ho,size_putL,hs],fun j v u e e'=>?_⟩
 rw [putLL_get ho] at e
 rw [Array.getElem?_toList,get_putL _ o us hfit] at e'
 split at e
 ·rename_i hj;rw [if_pos hj] at e';exact h.el j v u e (by simpa using e')
 ·rename_i hj
  rw [if_neg hj] at e'
  split at e
  ·rename_i hj2
   rw [if_pos (by omega)] at e'
   exact hv.el _ v u e e'
  ·rename_i hj2
   rw [if_neg (by omega)] at e'
   exact h.el j v u e (by simpa using e')
theorem fillK_ok {L:VSlots} {a:Act} (S:SlotsR m q L a) {pl:List (Nat × Nat)}:∀ (ps:List (Nat × Operand)) (cells:List V) (us:List Value) (k:List V→Prop), VRL m q cells us→fillK L pl ps cells k →
  ∃ cells' us',k cells'∧VRL m q cells' us'∧Instr.fill (pl.toArray[·]?) us.toArray (ps.map fun (i,x)=>(i,a.eval x))=some us'.toArray
 | [],cells,us,k,hv,h=>⟨cells,us,h,hv,rfl⟩
 | (f,x)::r,cells,us,k,hv,h=>by
  unfold fillK at h
  obtain ⟨v,h,hx⟩:=evO_ok S h
  split at h
  case h_2=>exact h.elim
  rename_i off sz hp
  split at h
  case h_2=>exact h.elim
  rename_i hsz hfl
  have hsz:=Nat.eq_of_beq_eq_true hsz
  obtain ⟨xs,hu,hxs,h1⟩:=cells_ok hx hfl
  obtain ⟨ho,h⟩:=storeK_ok _ _ _ _ h
  have hl:=hxs.len
  have hl2:=hv.len
  obtain ⟨cells',us',g1,g2,g3⟩:=fillK_ok S r _ (putL us.toArray off xs).toList _ (hv.put hxs ho) h
  refine ⟨cells',us',g1,g2,?_⟩
  rw [nth_eq] at hp
  rw [List.map_cons,fill_step (off:=off) (size:=sz) (by simpa using hp) hu (by omega) (by simp;omega)]
  simpa using g3
theorem build_ok (H:EnvOK E) {L:VSlots} {a:Act} (S:SlotsR m q L a) {T:Nat} {i:TI} {d:TypeDesc} {fs:List (Nat × Nat)} (hT:tyOf E.P T=some (i.zero, i.size, i.bytes, i.agg)) (hd:E.P.underlying T=some d) (hk:kindB (.struct fs) d=true) {ps:Array (Nat × Operand)} {k:V→Prop}
  (h:constL i.zero.cells.toList fun cs=>placesL E fs fun pl=>fillK L pl ps.toList cs fun cs'=>k (.agg cs')) :
  ∃ v u,k v∧VR m q v u∧(Instr.build T (ps.map fun (i,x)=>(i,a.eval x))).run E.P w=.ok u w:=by
 obtain ⟨fields,rfl,hf⟩:=kind_struct hk
 obtain ⟨cs,h,hcs⟩:=constL_ok (m:=m) (q:=q) _ _ h
 obtain ⟨pl,h,hpl⟩:=placesL_ok H _ _ _ hf h
 obtain ⟨cells',us',h1,h2,h3⟩:=fillK_ok S _ _ _ _ hcs h
 refine ⟨_,_,h1,.agg h2.len h2.el,?_⟩
 have hm:(fields.mapM fun f=>(do pure (f.offset,←sizeOf f.type):Sem (Nat × Nat))).run E.P w=.ok pl.toArray w:=by
  have:=hpl w
  obtain ⟨l⟩:=fields
  show Sem.run E.P (l.toArray.mapM _) w=_
  rw [List.mapM_toArray]
  simp only [Sem.run_map,this]
  rfl
 have h3':Instr.fill (pl.toArray[·]?) i.zero.cells (ps.map fun (i,x)=>(i,a.eval x)).toList=some us'.toArray:=by
  rw [Array.toList_map];simpa using h3
 simp only [Instr.build,Sem.run_bind,run_zero hT,run_underlying hd,Result.andThen_ok,hm,h3',Sem.run_pure]
end
end Gv
end PartV7
section PartV8
namespace Gv
open Go Go.RowKit Gw
variable [Glob]
section
variable {w0:Start} {w w':World} {m0 R m:Mem} {q:Loc} {rows:Rows} {E:Env} {K:V→Rows→Prop} {P:Program}
theorem ElsR.snoc {k:Nat} {els:List V} {arr:Array Value} {x:V} {us:List Value} (he:ElsR m k els arr) (hx:VRL m noLoc x.cells us) (h1:∀ u∈us,u.oneCell'=true) (hk:x.cells.length=k) (hs:els.length*k+us.length≤arr.size):ElsR m k (els++[x]) (putL arr (els.length*k) us):=fun i y hy=>by
 have hl:=hx.len
 rcases Nat.lt_or_ge i els.length with h|h
 ·rw [List.getElem?_append_left h] at hy
  refine ⟨(he i y hy).1,fun j v hj=>?_⟩
  obtain ⟨u,g1,g2⟩:=(he i y hy).2 j v hj
  have hjk:j < k:=by rw [←(he i y hy).1];exact (List.getElem?_eq_some_iff.1 hj).1
  have:=index_lt h hjk
  exact ⟨u,by rw [putL_old hs this];exact g1,g2⟩
 ·rw [List.getElem?_append_right h] at hy
  have hi:i-els.length=0:=by
   rcases Nat.eq_zero_or_pos (i-els.length) with e|e
   ·exact e
   ·rw [List.getElem?_eq_none (by simp;omega)] at hy;cases hy
  rw [hi] at hy
  simp at hy
  subst hy
  obtain rfl:i=els.length:=by omega
  refine ⟨hk,fun j v hj=>?_⟩
  obtain ⟨u,g1,g2⟩:=hx.getElem hj
  have hjl:=(List.getElem?_eq_some_iff.1 g1).1
  exact ⟨u,by rw [putL_new hs hjl];exact g1,h1 u (List.mem_of_getElem? g1),g2⟩
theorem partsK_ok {L:VSlots} {a:Act} {sz n:Nat} (S:SlotsR m q L a):∀ (ps:List (Nat × Operand)) (els:List V) (arr:Array Value) (rows:Rows) (R m':Mem) (k:List V→Rows→Prop), Cf w0 m0 rows R m' q w→m.Le m'→ElsR m' sz els arr→arr.size=n*sz→els.length+ps.length=n →
  partsK E L sz els.length ps rows k →
  ∃ els' rows' R' m'' arr',k els' rows'∧Cf w0 m0 rows' R' m'' q w∧m'.Le m''∧ElsR m'' sz (els++els') arr'∧arr'.size=n*sz∧els.length+els'.length=n ∧
   Instr.fill (fun i=>some (i*sz,sz)) arr (ps.map fun (i,x)=>(i,a.eval x))=some arr'
 | [],els,arr,rows,R,m',k,C,hm,he,hs,hn,h=>by
  refine ⟨[],rows,R,m',arr,h,C,Mem.Le.refl _,by simpa using he,hs,by simpa using hn,rfl⟩
 | (j,x)::r,els,arr,rows,R,m',k,C,hm,he,hs,hn,h=>by
  rw [partsK_cons] at h
  split at h
  case h_2=>exact h.elim
  rename_i hj
  have hj:=Nat.eq_of_beq_eq_true hj
  subst hj
  obtain ⟨v,h,hx⟩:=evO_ok (S.up hm (Loc.Le.refl q)) h
  obtain ⟨v',rows1,R1,m1,h,C1,hm1,hv1⟩:=fzA_ok C hx h
  split at h
  case h_2=>exact h.elim
  rename_i hsz hfl
  have hsz:=Nat.eq_of_beq_eq_true hsz
  obtain ⟨xs,hu,hxs,h1⟩:=cells_ok hv1 hfl
  have hl:=hxs.len
  simp only [List.length_cons] at hn
  have hfit:els.length*sz+xs.length≤arr.size:=by
   have:(els.length+1)*sz≤n*sz:=Nat.mul_le_mul_right _ (by omega)
   rw [Nat.add_mul] at this;omega
  have he':=(he.up hm1).snoc hxs h1 hsz hfit
  obtain ⟨els',rows',R',m'',arr',g1,g2,g3,g4,g5,g6,g7⟩:=partsK_ok S r (els++[v']) (putL arr (els.length*sz) xs) rows1 R1 m1 (fun vs rows''=>k (v'::vs) rows'') C1 (hm.trans hm1) he' (by rw [size_putL];exact hs) (by simp;omega) (by simpa using h)
  refine ⟨v'::els',rows',R',m'',arr',g1,g2,hm1.trans g3,by simpa using g4,g5,by simp at g6 ⊢;omega,?_⟩
  rw [List.map_cons,fill_step (off:=els.length*sz) (size:=sz) rfl hu (by omega) hfit]
  exact g7
theorem run_buildSlice {T El n:Nat} {e:TI} {ps:Array (Nat × Value)} {arr:Array Value} (hd:E.P.underlying T=some (.slice El)) (hE:tyOf E.P El=some (e.zero, e.size, e.bytes, e.agg)) (hn:n*e.size≤16777216)
  (hf:∀ z:Array Value,z=(if n*e.size=0 then #[] else e.zero.cells)→Instr.fill (fun i=>some (i*e.size,e.size)) ((Array.range (n*e.size)).map (z[· % z.size]!)) ps.toList=some arr) :
  (Instr.buildSlice T n ps).run E.P w=.ok (.slice (some ⟨w.heap.size,0,none⟩) n n) (w.alloc (.cells arr El)):=by
 simp only [Instr.buildSlice,Sem.run_bind,run_underlying hd,Result.andThen_ok,run_sizeOf hE]
 rw [if_neg (by simpa using hn)]
 by_cases h0:n*e.size=0
 ·have:=hf #[] (by rw [if_pos h0])
  simp only [h0,if_true,Sem.run_pure,Result.andThen_ok,Sem.run_bind]
  rw [h0] at this
  simp only [this,Sem.run_bind,newRow,run_newObj,Result.andThen_ok,Sem.run_pure]
  rfl
 ·have:=hf e.zero.cells (by rw [if_neg h0])
  simp only [if_neg h0,Sem.run_pure,Result.andThen_ok,Sem.run_bind,run_zero hE,this,newRow,run_newObj]
  rfl
theorem buildSlice_ok (H:EnvOK E) (C:Cf w0 m0 rows R m q w) {L:VSlots} {a:Act} (S:SlotsR m q L a) {T El n:Nat} {e:TI} {ps:Array (Nat × Operand)} {dr:Bool} (hd:E.P.underlying T=some (.slice El)) (hE:tyOf E.P El=some (e.zero, e.size, e.bytes, e.agg))
  (hn : ps.toList.length = n) (hb : n * e.size ≤ 16777216) (hb2 : n ≤ 16777216) (h : partsK E L e.size 0 ps.toList rows fun els rows' => match dr with
      | false=>pushK 0 rows' (.row e.size els) fun r rows''=>K (.own r) rows''
      | true=>∃ (α:Type) (enc : α→V) (l:List α),LeL els (l.map enc)∧K (.sl enc l) rows') :
  ∃ u w',(Instr.buildSlice T n (ps.map fun (i,x)=>(i,a.eval x))).run E.P w=.ok u w'∧After w0 m0 m q K u w':=by
 obtain ⟨els,rows',R',m',arr,h,C',hm,he,hs,hl,hf⟩:=partsK_ok (n:=n) S ps.toList [] ((Array.range (n*e.size)).map ((if n*e.size=0 then #[] else e.zero.cells)[· % (if n*e.size=0 then #[] else e.zero.cells).size]!)) rows R m _ C (Mem.Le.refl m) (fun i x hx=>by simp at hx) (by simp) (by simpa using hn) h
 simp only [List.nil_append,List.length_nil,Nat.zero_add] at he hl
 have hr:=run_buildSlice (E:=E) (w:=w) (n:=n) (ps:=ps.map fun (i,x)=>(i,a.eval x)) (arr:=arr) hd hE hb (fun z hz=>by
  subst hz
  rw [Array.toList_map];exact hf)
 refine ⟨_,_,hr,?_⟩
 have hcap:els.length≤MAXL:=by unfold MAXL;omega
 subst hl
 cases dr with
 | false =>
  have h:=pushK_ok _ _ _ _ h
  rw [Nat.zero_add] at h
  have C2:=C'.row (Bel.refl [] w) (els:=els) (k:=e.size) (cap:=els.length) (arr:=arr) El hs (Nat.le_refl _) hcap he
  refine ⟨_,_,_,_,_,h,C2,hm,C'.le_add _,?_⟩
  exact VR.own (m:=m') (add_self q rows'.length (some w.heap.size,els.length,els.length,e.size))
 | true =>
  obtain ⟨α,enc,l,hle,h⟩:=h
  have hlen:els.length=l.length:=by have:=hle.len;simpa using this
  have hbel:Bel [] w (w.alloc (.cells arr El)):=Bel.alloc [] w _
  have hgr:=C'.sit.mem.le_grow (w.alloc (.cells arr El))
  have:=els_sl (q:=q) (cap:=els.length) hle (b:=w.heap.size) (arr:=arr) (T:=El) (fz:=(0,0)) (m:=grow m' w (w.alloc (.cells arr El))) (by unfold grow;rw [if_neg (by omega)];exact Gw.heap_alloc_new w _) (he.up hgr) (Nat.le_refl _) hcap
  rw [←hlen] at this
  exact ⟨_,_,_,_,_,h,C'.grow hbel,hm.trans hgr,Loc.Le.refl q,this⟩
end
end Gv
end PartV8
section PartV9
namespace Gv
open Go Go.RowKit Gw
variable [Glob]
section
variable {w0:Start} {w w':World} {m0 R m:Mem} {q:Loc} {rows:Rows} {E:Env} {K:V→Rows→Prop} {P:Program}
theorem bytes_of {ys:List UInt8} {new:List Value} {u:Value} (S:Src P m w 1 (ys.map byteV) u new):new=(ys.map fun x=>(x.toNat:Int)).map (Value.int .u8):=by
 have hl:=S.size
 apply List.ext_getElem?
 intro i
 rcases Nat.lt_or_ge i ys.length with h|h
 ·obtain ⟨u',g1,g2,g3⟩:=(S.el i (byteV ys[i]) (by simp [h])).2 0 (byteV ys[i]) rfl
  rw [Nat.mul_one,Nat.add_zero] at g1
  rw [g1]
  cases g3
  simp [h]
 ·rw [List.getElem?_eq_none (by simp at hl;omega),List.getElem?_eq_none (by simp;omega)]
theorem run_b2s' {oa:Option Addr} {len cap:Nat} {ys:List UInt8} {new:List Value} (S:Src P m w 1 (ys.map byteV) (.slice oa len cap) new) (hlen:len=ys.length) (hn:oa=none→ys=[]):(Conv.bytesToString (.slice oa len cap)).run P w=.ok (Gw.str ys) w:=by
 subst hlen
 cases oa with
 | none=>rw [hn rfl];rfl
 | some p =>
  have hc:=S.run w rfl
  simp only [List.length_map,Builtin.firstCells,Nat.mul_one] at hc
  rw [bytes_of S] at hc
  rw [run_bytesToString w p ys.length cap _ hc,foldl_push]
  simp [Gw.str]
theorem Cf.slice_of (C:Cf w0 m0 rows R m q w) {y:V} {u:Value} {ys:List V} (hy:VR m q y u) (he:elsOf y rows=some ys) (hs:∀ s,y≠.str s):∃ oa cap,u=.slice oa ys.length cap∧ys.length≤cap∧cap≤MAXL∧(oa=none→ys=[]):=by
 have sl:∀ {q:Loc} {α:Type} {enc : α→V} {l:List α} {u:Value},VR m q (.sl enc l) u→∃ oa cap,u=.slice oa (l.map enc).length cap∧(l.map enc).length≤cap∧cap≤MAXL∧(oa=none→l.map enc=[]):=by
  intro q α enc l u h
  cases h with
  | sl0 h h0=>exact ⟨_,_,rfl,by simp,h,fun _=>rfl⟩
  | @sl _ _ _ _ b off arr T fz cap k us h1 h2 h3 h4 h5 h6=>exact ⟨some ⟨b,off,none⟩,cap,(by rw [List.length_map]),(by simpa using h1),h2,(fun h=>by cases h)⟩
 cases y<;>simp only [elsOf,Option.some.injEq,reduceCtorEq] at he
 case sl α enc l=>subst he;exact sl hy
 case nil=>subst he;cases hy;exact ⟨none,0,rfl,by simp,by simp,fun _=>rfl⟩
 case str s=>exact absurd rfl (hs s)
 case own r =>
  split at he
  ·rename_i kk els hr
   cases he
   rw [nth_eq] at hr
   obtain ⟨ob,cap,h1,h2,h3,h4,h5⟩:=C.rok.row r _ hr
   cases hy with
   | own h =>
    rw [h1] at h;cases h
    refine ⟨_,_,rfl,h2,h3,fun h=>?_⟩
    have:ob=none:=by cases ob<;>first|rfl|cases h
    have:=h4 this
    exact List.length_eq_zero_iff.1 (by omega)
  ·rename_i α enc l hr
   cases he
   rw [nth_eq] at hr
   exact sl (C.own_fz hr hy)
  ·cases he
theorem run_s2b {S D El:Nat} {s:List UInt8} (hl:s.length≤140737488355328) (hS:P.underlying S=some .string) (hD:P.underlying D=some (.slice El)) (hE:P.underlying El=some (.int .u8)) :
  ∃ u w',(convert S D (Gw.str s)).run P w=.ok u w'∧Bel [] w w'∧(∀ m,VR (grow m w w') noLoc (.sl byteV s) u) ∧
   ∃ nc arr fz,u=.slice (some ⟨w.heap.size,0,none⟩) s.length nc∧w'.heap[w.heap.size]?=some (.cells arr El fz)∧noFz arr.size fz∧arr.size=nc*1∧s.length≤nc∧nc≤MAXL∧∀ m,ElsR m 1 (s.map byteV) arr:=by
 let nc:=(Question.appendCap s.length 0 El).cut (w.tape w.drawn (.appendCap s.length 0 El))
 have hnc:s.length≤nc:=by show s.length≤_;simp only [Question.cut,nc];omega
 have hnc2:nc≤9223372036854775807:=by
  have h:=Nat.mod_lt (w.tape w.drawn (.appendCap s.length 0 El)) (show 0 < 2 ^ 63-s.length by omega)
  show s.length+_ % (2 ^ 63-s.length)≤_
  omega
 let arr:Array Value:=(s.toArray.map fun b=>Value.int .u8 b.toNat)++Array.replicate (nc-s.length) (.int .u8 0)
 let w1:=w.drew.alloc (.cells arr El)
 let w2:=w1.freeze ⟨w.heap.size,arr.size,none⟩ 1
 have hq:(choose (.appendCap s.length 0 El)).run P w=.ok nc w.drew:=by
  simp only [run_choose,Question.forced,Bool.false_eq_true,if_false];rfl
 have hsh:(shape w.heap.size).run P w1=.ok (some (El,arr.size)) w1:=by
  simp only [run_shape,World.shape?]
  rw [show w1.heap[w.heap.size]?=some (.cells arr El) from Gw.heap_alloc_new w.drew _]
 have hr:(convert S D (Gw.str s)).run P w=.ok (.slice (some ⟨w.heap.size,0,none⟩) s.length nc) w2:=by
  simp only [Gw.str,convert,Sem.run_bind,run_underlying hS,run_underlying hD,run_underlying hE,Result.andThen_ok,Conv.stringToBytes,str_size,hq,newRow,run_newObj,Sem.run_pure,markStringish]
  simp only [World.alloc_eq]
  have e1:w.drew.heap.size=w.heap.size:=rfl
  rw [e1]
  rw [show (w.drew.alloc (.cells ((s.toArray.map fun b=>Value.int .u8 b.toNat)++Array.replicate (nc-s.length) (.int .u8 0)) El))=w1 from rfl,hsh]
  rfl
 have hh:∀ k,w2.heap[k]?=if k=w.heap.size then some (.cells arr El (arr.size,arr.size+1)) else w1.heap[k]?:=fun k=>by
  simp only [w2,World.freeze,Nat.one_ne_zero,if_false,Array.getElem?_modify]
  by_cases e:w.heap.size=k
  ·subst e
   simp only [if_true]
   rw [show w1.heap[w.heap.size]?=some (.cells arr El) from Gw.heap_alloc_new w.drew _]
   simp
  ·rw [if_neg e,if_neg (fun h=>e h.symm)]
 have hsz:w2.heap.size=w1.heap.size:=by simp [w2,World.freeze]
 have hbel:Bel [] w w2:=by
  have h1:Bel [] w w1:=(Bel.drew [] w).trans (Bel.alloc [] w.drew _)
  refine ⟨rfl,rfl,rfl,by rw [hsz];exact h1.size,fun k hk hx=>?_⟩
  rw [hh k,if_neg (by omega)]
  exact h1.block k hk hx
 have hels:∀ m,ElsR m 1 (s.map byteV) arr:=fun m i x hi=>by
  rw [List.getElem?_map] at hi
  obtain ⟨c,hc,rfl⟩:=Option.map_eq_some_iff.1 hi
  have hlt:=(List.getElem?_eq_some_iff.1 hc).1
  have hcc:=(List.getElem?_eq_some_iff.1 hc).2
  refine ⟨rfl,fun j v e=>?_⟩
  have hj:j=0:=by
   rcases Nat.eq_zero_or_pos j with h|h
   ·exact h
   ·rw [List.getElem?_eq_none (by simp [byteV,V.cells];omega)] at e;cases e
  subst hj
  obtain rfl:byteV c=v:=by simpa [byteV,V.cells] using e
  refine ⟨.int .u8 c.toNat,?_,rfl,.int⟩
  show ((s.toArray.map fun b=>Value.int .u8 b.toNat)++Array.replicate (nc-s.length) (.int .u8 0))[i*1+0]?=_
  rw [show i*1+0=i by omega,Array.getElem?_append_left (by simpa using hlt)]
  simp [hc]
 refine ⟨_,_,hr,hbel,fun m=>?_,nc,arr,(arr.size,arr.size+1),rfl,by rw [hh,if_pos rfl],fun i hi h=>by simp only at h;omega,by simp [arr];omega,hnc,hnc2,hels⟩
 refine VR.sl (b:=w.heap.size) (off:=0) (arr:=arr) (T:=El) (fz:=(arr.size,arr.size+1)) (cap:=nc) (k:=1) (fun i j=>.int .u8 (s[i]?.getD 0).toNat) hnc hnc2 ?_ (fun i h=>rfl) (fun i h j v e=>?_) (fun i h j v e=>?_)
 ·unfold grow
  rw [if_neg (by omega),hh,if_pos rfl]
 ·have hj:j=0 := by
   rcases Nat.eq_zero_or_pos j with h|h
   ·exact h
   ·rw [List.getElem?_eq_none (by simp [byteV,V.cells];omega)] at e;cases e
  subst hj
  refine ⟨?_,rfl⟩
  show ((s.toArray.map fun b=>Value.int .u8 b.toNat)++Array.replicate (nc-s.length) (.int .u8 0))[0+i*1+0]?=_
  rw [show 0+i*1+0=i by omega,Array.getElem?_append_left (by simpa using h)]
  simp [h]
 ·have hj:j=0 := by
   rcases Nat.eq_zero_or_pos j with h|h
   ·exact h
   ·rw [List.getElem?_eq_none (by simp [byteV,V.cells];omega)] at e;cases e
  subst hj
  simp [byteV,V.cells] at e
  subst e
  simp only [h,List.getElem?_eq_getElem,Option.getD_some]
  exact .int
theorem VR.take {q:Loc} {α:Type} {enc : α→V} {l:List α} {oa:Option Addr} {cap:Nat} (h:VR m q (.sl enc l) (.slice oa l.length cap)) (n:Nat) (hn:n≤l.length):VR m q (.sl enc (l.take n)) (.slice oa n cap):=by
 generalize hu:Value.slice oa l.length cap=u at h
 cases h with
 | sl0 h h0 =>
  cases hu
  have:n=0:=by simpa using hn
  subst this
  exact .sl0 h h0
 | @sl _ _ _ _ b off arr T fz cap' k us h1 h2 h3 h4 h5 h6 =>
  cases hu
  have e:(l.take n).length=n:=by simp;omega
  have:=VR.sl (q:=q) (enc:=enc) (l:=l.take n) (b:=b) (off:=off) (arr:=arr) (T:=T) (fz:=fz) (cap:=cap) (k:=k) us (by omega) h2 h3 (fun i h=>by simpa using h4 i (by simp at h;omega)) (fun i h j v e=>h5 i (by simp at h;omega) j v (by simpa using e)) (fun i h j v e=>h6 i (by simp at h;omega) j v (by simpa using e))
  rwa [e] at this
theorem VR.drop {q:Loc} {α:Type} {enc : α→V} {l:List α} {oa:Option Addr} {cap s:Nat} (h:VR m q (.sl enc l) (.slice oa l.length cap)) (hs:∀ a, (enc a).cells.length=s) (n:Nat) (hn:n≤l.length) (hc:l.length≤cap) :
  VR m q (.sl enc (l.drop n)) (.slice (if cap=n then oa else oa.map (·.add (n*s))) (l.length-n) (cap-n)):=by
 by_cases h0:l.length=n
 ·have e:l.drop n=[]:=by simp;omega
  rw [e,show l.length-n=0 by omega]
  have hn0:oa=none→cap=0:=by
   generalize hu:Value.slice oa l.length cap=u at h
   intro ho
   cases h<;>cases hu
   ·rename_i g1 g2;exact g2 ho
   ·cases ho
  refine .sl0 ?_ ?_
  ·generalize hu:Value.slice oa l.length cap=u at h
   cases h<;>cases hu<;>omega
  ·intro ho
   split at ho
   ·omega
   ·have:oa=none:=by cases oa<;>first|rfl|cases ho
    have:=hn0 this
    omega
 generalize hu:Value.slice oa l.length cap=u at h
 cases h with
 | sl0 h g=>simp at hn h0;omega
 | @sl _ _ _ _ b off arr T fz cap' k us h1 h2 h3 h4 h5 h6 =>
  cases hu
  have hk:k=s:=by rw [←h4 0 (by omega)];exact hs _
  subst hk
  have e:(l.drop n).length=l.length-n:=by simp
  rw [if_neg (by omega)]
  have:=VR.sl (q:=q) (enc:=enc) (l:=l.drop n) (b:=b) (off:=off+n*k) (arr:=arr) (T:=T) (fz:=fz) (cap:=cap-n) (k:=k) (fun i j=>us (n+i) j) (by omega) (by omega) h3 (fun i h=>by simpa using h4 (n+i) (by simp at h;omega)) (fun i h j v e=>by
   have:=h5 (n+i) (by simp at h;omega) j v (by simpa using e)
   rw [Nat.add_mul] at this
   rw [show off+n*k+i*k+j=off+(n*k+i*k)+j by omega]
   exact this) (fun i h j v e=>h6 (n+i) (by simp at h;omega) j v (by simpa using e))
  rw [e] at this
  simpa [add_none] using this
theorem boundK_ok {L:VSlots} {a:Act} (S:SlotsR m q L a) {x:Operand} {d:Nat} {k:Int→Prop} (h:boundK L (some x) d k):∃ kd n,a.eval x=.int kd n∧k n:=by
 unfold boundK at h
 simp only at h
 obtain ⟨v,h,hv⟩:=evO_ok S h
 split at h
 ·rename_i kd n
  generalize a.eval x=u at hv
  cases hv
  exact ⟨_,_,rfl,h⟩
 ·exact h.elim
theorem run_slice {T El n cap:Nat} {oa:Option Addr} {z:Value} {s by_:Nat} {g:Bool} {lo hi:Option Value} {l h:Nat} (hT:P.underlying T=some (.slice El)) (hE:tyOf P El=some (z, s, by_, g))
  (hlo:lo=none∧l=0∨∃ k,lo=some (.int k l)) (hhi:hi=none∧h=n∨∃ k,hi=some (.int k h)) (h1:l≤h) (h2:h≤cap) :
  (Instr.sliceAt T (.slice oa n cap) lo hi none).run P w=.ok (.slice (if cap=l then oa else oa.map (·.add (l*s))) (h-l) (cap-l)) w:=by
 rcases hlo with ⟨rfl,rfl⟩|⟨k1,rfl⟩<;>rcases hhi with ⟨rfl,rfl⟩|⟨k2,rfl⟩ <;>
  simp [Instr.sliceAt,Instr.slice,Instr.sliceBounds,Instr.sliceBound,asIntOf,run_underlying hT,run_sizeOf hE,h1,h2]
theorem run_sliceS {T:Nat} {s:List UInt8} {lo hi:Option Value} {l h:Nat} (hT:P.underlying T=some .string) (hlo:lo=none∧l=0∨∃ k, lo=some (.int k l)) (hhi:hi=none∧h=s.length∨∃ k, hi=some (.int k h)) (h1:l≤h) (h2:h≤s.length) :
  (Instr.sliceAt T (Gw.str s) lo hi none).run P w=.ok (Gw.str ((s.take h).drop l)) w:=by
 have hx:(⟨s.toArray⟩:ByteArray).extract l h=⟨((s.take h).drop l).toArray⟩:=by
  rw [ByteArray.ext_iff]
  rw [ByteArray.data_extract]
  simp [List.drop_take]
 rcases hlo with ⟨rfl,rfl⟩|⟨k1,rfl⟩<;>rcases hhi with ⟨rfl,rfl⟩|⟨k2,rfl⟩ <;>
  simp [Instr.sliceAt,Instr.slice,Instr.sliceBounds,Instr.sliceBound,asIntOf,run_underlying hT,Gw.str,str_size,h1,h2,hx]
end
end Gv
end PartV9
section PartV10
namespace Gv
open Go Go.RowKit Gw
variable [Glob]
section
variable {w0:Start} {w w':World} {m0 R m:Mem} {q:Loc} {rows:Rows} {E:Env} {K:V→Rows→Prop} {P:Program}
theorem ikEq_ok {a b:IntKind} (h:ikEq a b=true):a=b:=by cases a<;>cases b<;>first|rfl|cases h
theorem bs_leq {T:TypeId} {i j:List UInt8} (w:World):(binOp .leq T (Gw.str i) (Gw.str j)).run P w=.ok (.bool (Op.bytesLess i j || decide (i=j))) w:=by
 simp only [binOp,Gw.str,Op.stringOp,str_toList,show (i == j)=decide (i=j) by rw [Bool.eq_iff_iff];simp];rfl
theorem bs_gtr {T:TypeId} {i j:List UInt8} (w:World):(binOp .gtr T (Gw.str i) (Gw.str j)).run P w=.ok (.bool (!(Op.bytesLess i j || decide (i=j)))) w:=by
 simp only [binOp,Gw.str,Op.stringOp,str_toList,show (i == j)=decide (i=j) by rw [Bool.eq_iff_iff];simp];rfl
theorem bs_geq {T:TypeId} {i j:List UInt8} (w:World):(binOp .geq T (Gw.str i) (Gw.str j)).run P w=.ok (.bool (!Op.bytesLess i j)) w:=by
 simp only [binOp,Gw.str,Op.stringOp,str_toList];rfl
theorem guard_ii {op:BinOp} {T:TypeId} {x y:Operand} {k k':IntKind} {i j:Int}:(eqGuard op T x y (.int k i) (.int k' j)).run P w=.ok () w:=by unfold eqGuard;cases op<;>rfl
theorem guard_bb {op:BinOp} {T:TypeId} {x y:Operand} {i j:Bool}:(eqGuard op T x y (.bool i) (.bool j)).run P w=.ok () w:=by unfold eqGuard;cases op<;>rfl
theorem guard_ss {op:BinOp} {T:TypeId} {x y:Operand} {i j:List UInt8}:(eqGuard op T x y (Gw.str i) (Gw.str j)).run P w=.ok () w:=by unfold eqGuard Gw.str;cases op<;>rfl
theorem guard_ll {op:BinOp} {T:TypeId} {x y:Operand} {a b:Option Addr} {n c n' c':Nat}:(eqGuard op T x y (.slice a n c) (.slice b n' c')).run P w=.ok () w:=by unfold eqGuard;cases op<;>rfl
def BinS (P:Program) (m:Mem) (q:Loc) (w:World) (op:BinOp) (T:Nat) (x y:Operand) (a b:Value) (k:V→Prop):Prop:=∃ v u,k v∧VR m q v u∧(do eqGuard op T x y a b;binOp op T a b:Sem Value).run P w=.ok u w
theorem BinS.mk {op:BinOp} {T:Nat} {x y:Operand} {a b:Value} {k:V→Prop} {v:V} {u:Value} (hg:(eqGuard op T x y a b).run P w=.ok () w) (hk:k v) (hv:VR m q v u) (hr:(binOp op T a b).run P w=.ok u w):BinS P m q w op T x y a b k :=
 ⟨v,u,hk,hv,by simp only [Sem.run_bind,hg,Result.andThen_ok,hr]⟩
theorem intOp_ok {op:BinOp} {T:Nat} {x y:Operand} {kd:IntKind} {a b:Int} {k:V→Prop} (h:intOp op kd a b k):BinS P m q w op T x y (.int kd a) (.int kd b) k:=by
 unfold intOp at h
 split at h
 ·exact .mk guard_ii h .bool (b_lss w)
 ·exact .mk guard_ii h .bool (b_leq w)
 ·exact .mk guard_ii h .bool (b_gtr w)
 ·exact .mk guard_ii h .bool (b_geq w)
 ·exact .mk guard_ii h .bool (b_eql w)
 ·exact .mk guard_ii h .bool (b_neq w)
 ·split at h
  ·exact .mk guard_ii h.2 .int (b_add h.1 w)
  ·exact h.elim
 ·split at h
  ·exact .mk guard_ii h.2 .int (b_sub h.1 w)
  ·exact h.elim
 ·split at h
  ·exact .mk guard_ii h.2 .int (b_mul h.1 w)
  ·exact h.elim
 ·split at h
  ·exact .mk guard_ii h.2 .int (b_quo h.1.1 h.1.2.1 h.1.2.2 w)
  ·exact h.elim
 ·split at h
  ·exact .mk guard_ii h.2 .int (b_rem h.1 w)
  ·exact h.elim
 ·exact h.elim
theorem strOp_ok {op:BinOp} {T:Nat} {x y:Operand} {a b:List UInt8} {k:V→Prop} (h:strOp op a b k):BinS P m q w op T x y (Gw.str a) (Gw.str b) k:=by
 unfold strOp at h
 split at h
 ·exact .mk guard_ss h .bool (bs_eql w)
 ·exact .mk guard_ss h .bool (bs_neq w)
 ·exact .mk guard_ss h .bool (bs_lss w)
 ·exact .mk guard_ss h .bool (bs_leq w)
 ·exact .mk guard_ss h .bool (bs_gtr w)
 ·exact .mk guard_ss h .bool (bs_geq w)
 ·exact .mk guard_ss h.2 (.str (by simpa using h.1)) (bs_add h.1 w)
 ·exact h.elim
theorem boolOf_ok {v:V} {b:Bool} {u:Value} (h:boolOf v=some b) (hv:VR m q v u):u=.bool b:=by
 cases v<;>simp [boolOf] at h
 ·subst h;cases hv;rfl
 ·subst h;cases hv;rfl
theorem run_forEq {α:Type} {body : α→Option Bool × Unit→Sem (ForInStep (Option Bool × Unit))} {eqf : α→Bool}:∀ (l:List α),(∀ f∈l,(body f (none,())).run P w=.ok (if eqf f then .yield (none,()) else .done (some false,())) w)→(forIn l (none,()) body).run P w=.ok (if l.all eqf then (none,()) else (some false,())) w
 | [],_=>by simp [Sem.run_pure]
 | f::r,h=>by
  have h1:=h f (by simp)
  have h2:=run_forEq r fun g hg=>h g (by simp [hg])
  simp only [List.forIn_cons,Sem.run_bind,h1,Result.andThen_ok]
  cases hf:eqf f with
  | true=>simp only [if_true,h2,List.all_cons,hf,Bool.true_and]
  | false=>simp [List.all_cons,hf,Sem.run_pure]
inductive CellEq:List Bool→List Value→List Value→List Bool→Prop
 | nil:CellEq [] [] [] []
 | int {a b:Int} {ks r s bs} (h:CellEq ks r s bs):CellEq (true::ks) (.int .i64 a::r) (.int .i64 b::s) (decide (a=b)::bs)
 | str {a b:List UInt8} {ks r s bs} (h:CellEq ks r s bs):CellEq (false::ks) (Gw.str a::r) (Gw.str b::s) (decide (a=b)::bs)
theorem VRL.uncons {x:V} {r:List V} {us:List Value} (h:VRL m q (x::r) us):∃ u us',us=u::us'∧VR m q x u∧VRL m q r us':=by
 cases us with
 | nil=>have:=h.len;simp at this
 | cons u us'=>exact ⟨u,us',rfl,h.el 0 x u rfl rfl,⟨by have:=h.len;simpa using this,fun i a b e e'=>h.el (i+1) a b (by simpa using e) (by simpa using e')⟩⟩
theorem eqCells_ok:∀ (ks:List Bool) (xs ys:List V) (us vs:List Value) (k:Bool→Prop),VRL m q xs us→VRL m q ys vs→eqCells ks xs ys k→∃ bs,CellEq ks us vs bs∧k (bs.all id)
 | [],[],[],us,vs,k,h1,h2,h=>by
  obtain rfl:us=[]:=List.length_eq_zero_iff.1 (by simpa using h1.len.symm)
  obtain rfl:vs=[]:=List.length_eq_zero_iff.1 (by simpa using h2.len.symm)
  exact ⟨[],.nil,h⟩
 | [],_::_,_,us,vs,k,h1,h2,h=>h.elim
 | [],[],_::_,us,vs,k,h1,h2,h=>h.elim
 | c::ks,[],ys,us,vs,k,h1,h2,h=>by cases c<;>simp [eqCells] at h
 | c::ks,x::r,[],us,vs,k,h1,h2,h=>by
  unfold eqCells at h
  split at h<;>first|exact h.elim|(rename_i e1 e2;cases e2;done)|(rename_i e1 e2 e3;cases e3;done)|skip
  all_goals simp_all
 | c::ks,x::r,y::s,us,vs,k,h1,h2,h=>by
  have go:∀ b:Bool,(∀ u v us' vs' bs,VR m q x u→VR m q y v→CellEq ks us' vs' bs→CellEq (c::ks) (u::us') (v::vs') (b::bs))→eqCells ks r s (fun d=>k (b && d))→∃ bs,CellEq (c::ks) us vs bs∧k (bs.all id):=fun b hc h=>by
   obtain ⟨u,us',rfl,e1,e2⟩:=h1.uncons
   obtain ⟨v,vs',rfl,e3,e4⟩:=h2.uncons
   obtain ⟨bs,g1,g2⟩:=eqCells_ok ks r s us' vs' _ e2 e4 h
   exact ⟨b::bs,hc u v us' vs' bs e1 e3 g1,by simpa [List.all_cons] using g2⟩
  cases c with
  | true =>
   cases x<;>first|exact False.elim h|skip
   cases y<;>first|(simp [eqCells] at h;done)|skip
   rename_i k1 a k2 b
   cases k1<;>first|(simp [eqCells] at h;done)|skip
   cases k2<;>first|(simp [eqCells] at h;done)|skip
   exact go _ (fun u v us' vs' bs e1 e2 hc=>by cases e1;cases e2;exact .int hc) h
  | false =>
   cases x<;>first|exact False.elim h|skip
   cases y<;>first|(simp [eqCells] at h;done)|skip
   exact go _ (fun u v us' vs' bs e1 e2 hc=>by cases e1;cases e2;exact .str hc) h
theorem CellEq.get {ks:List Bool} {us vs:List Value} {bs:List Bool} (h:CellEq ks us vs bs):∀ i,i < ks.length→∃ b,bs[i]?=some b∧((∃ x y:Int,ks[i]?=some true∧us[i]?=some (.int .i64 x)∧vs[i]?=some (.int .i64 y)∧b=decide (x=y))∨∃ x y,ks[i]?=some false∧us[i]?=some (Gw.str x)∧vs[i]?=some (Gw.str y)∧b=decide (x=y)):=by
 induction h with
 | nil=>intro i hi;simp at hi
 | @int a b ks r s bs h ih =>
  intro i hi
  cases i with
  | zero=>exact ⟨_,rfl,.inl ⟨a,b,rfl,rfl,rfl,rfl⟩⟩
  | succ i=>obtain ⟨c,h1,h2⟩:=ih i (by simpa using hi);exact ⟨c,by simpa using h1,by simpa using h2⟩
 | @str a b ks r s bs h ih =>
  intro i hi
  cases i with
  | zero=>exact ⟨_,rfl,.inr ⟨a,b,rfl,rfl,rfl,rfl⟩⟩
  | succ i=>obtain ⟨c,h1,h2⟩:=ih i (by simpa using hi);exact ⟨c,by simpa using h1,by simpa using h2⟩
theorem CellEq.len {ks:List Bool} {us vs:List Value} {bs:List Bool} (h:CellEq ks us vs bs):bs.length=ks.length:=by
 induction h<;>simp_all
theorem run_eqAgg {T:Nat} {ks:List Bool} {us vs:List Value} {bs:List Bool} (hT:flatB P T ks=true) (h:CellEq ks us vs bs) (d:Nat):(Op.equalIn (d+2) T (.agg us.toArray) (.agg vs.toArray)).run P w=.ok (bs.all id) w∧∀ x y op,(eqGuard op T x y (.agg us.toArray) (.agg vs.toArray)).run P w=.ok () w:=by
 unfold flatB at hT
 split at hT
 case h_2=>cases hT
 rename_i fields hd
 simp only [Bool.and_eq_true,Bool.not_eq_true'] at hT
 obtain ⟨⟨⟨hs,hg⟩,hlen⟩,hall⟩:=hT
 have hlen:=Nat.eq_of_beq_eq_true hlen
 have hfield : ∀ i (f : Field), fields.toList[i]? = some f → f.name ≠ "_" ∧ f.offset = i ∧ (P.underlying f.type = some (.int .i64) ∧ ks[i]? = some true ∨ P.underlying f.type = some .string ∧ ks[i]? = some false) := fun i f hf => by
  have hm:(f,i)∈fields.toList.zipIdx:=by
   rw [List.mem_iff_getElem?]
   exact ⟨i,by simp [List.getElem?_zipIdx,hf]⟩
  have:=List.all_eq_true.1 hall _ hm
  simp only [Bool.and_eq_true,bne_iff_ne] at this
  obtain ⟨⟨h1,h2⟩,h3⟩:=this
  refine ⟨h1,Nat.eq_of_beq_eq_true h2,?_⟩
  split at h3
  ·rename_i e e';rw [nth_eq] at e';exact .inl ⟨e,e'⟩
  ·rename_i e e';rw [nth_eq] at e';exact .inr ⟨e,e'⟩
  ·cases h3
 refine ⟨?_,fun x y op=>?_⟩
 ·
  let body:Field→Option Bool × Unit→Sem (ForInStep (Option Bool × Unit)):=fun f __s=>do
   if f.name ≠ "_" then do
    let a ←part f.type us.toArray f.offset
    let b ←part f.type vs.toArray f.offset
    let c ←Op.equalIn (d+1) f.type a b
    if (!c)=true then pure (ForInStep.done (some false,())) else pure (ForInStep.yield (none,()))
   else pure (ForInStep.yield (none,()))
  have hb:∀ f∈fields.toList,(body f (none,())).run P w=.ok (if (bs[f.offset]?).getD false then .yield (none,()) else .done (some false,())) w:=fun f hf=>by
   obtain ⟨i,hi⟩:=List.getElem?_of_mem hf
   obtain ⟨h1,h2,h3⟩:=hfield i f hi
   subst h2
   have hlt:f.offset < ks.length:=by rw [←hlen];exact (List.getElem?_eq_some_iff.1 hi).1
   obtain ⟨b,e1,e2⟩:=h.get f.offset hlt
   have hagg:(isAgg f.type).run P w=.ok false w:=by
    rcases h3 with ⟨h3,-⟩|⟨h3,-⟩<;>simp [isAgg,run_underlying h3]
   have hpart:∀ (cs:List Value) u,cs[f.offset]?=some u→(part f.type cs.toArray f.offset).run P w=.ok u w:=fun cs u hu=>by
    simp [part,hagg,hu]
   have he:∃ a c,us[f.offset]?=some a∧vs[f.offset]?=some c∧(Op.equalIn (d+1) f.type a c).run P w=.ok b w:=by
    rcases e2 with ⟨x,y,g0,g1,g2,rfl⟩|⟨x,y,g0,g1,g2,rfl⟩
    ·rcases h3 with ⟨h3,-⟩|⟨-,h4⟩
     ·refine ⟨_,_,g1,g2,?_⟩
      simp [Op.equalIn,run_underlying h3]
      rfl
     ·rw [g0] at h4;cases h4
    ·rcases h3 with ⟨-,h4⟩|⟨h3,-⟩
     ·rw [g0] at h4;cases h4
     ·refine ⟨_,_,g1,g2,?_⟩
      have:((⟨x.toArray⟩:ByteArray) == ⟨y.toArray⟩)=decide (x=y):=by
       show ByteArray.beq _ _=_
       simp only [ByteArray.beq]
       rw [Bool.eq_iff_iff]
       simp
      simp [Op.equalIn,run_underlying h3,Gw.str,this]
   obtain ⟨a,c,g1,g2,g3⟩:=he
   simp only [body,h1,ne_eq,not_false_eq_true,if_true,Sem.run_bind,hpart us a g1,hpart vs c g2,Result.andThen_ok,g3,e1,Option.getD_some]
   cases b<;>simp [Sem.run_pure]
  have hr:=run_forEq (P:=P) (w:=w) (eqf:=fun f=>(bs[f.offset]?).getD false) fields.toList hb
  have hbl:=h.len
  have hbs:fields.toList.all (fun f=>(bs[f.offset]?).getD false)=bs.all id:=by
   rw [Bool.eq_iff_iff,List.all_eq_true,List.all_eq_true]
   constructor
   ·intro hh b hb'
    obtain ⟨i,hi⟩:=List.getElem?_of_mem hb'
    have hlt:i < fields.toList.length:=by have:=(List.getElem?_eq_some_iff.1 hi).1;omega
    have:=hh fields.toList[i] (List.getElem_mem hlt)
    rw [(hfield i _ (List.getElem?_eq_getElem hlt)).2.1,hi] at this
    simpa using this
   ·intro hh f hf
    obtain ⟨i,hi⟩:=List.getElem?_of_mem hf
    have hlt:i < bs.length:=by have:=(List.getElem?_eq_some_iff.1 hi).1;omega
    rw [(hfield i f hi).2.1,List.getElem?_eq_getElem hlt]
    simpa using hh bs[i] (List.getElem_mem hlt)
  rw [hbs] at hr
  have hr':(forIn fields (none,()) body).run P w=.ok (if bs.all id=true then (none,()) else (some false,())) w:=by
   rw [←Array.forIn_toList];exact hr
  simp only [Op.equalIn,Sem.run_bind,run_underlying hd,Result.andThen_ok,run_program,hs,Bool.false_eq_true,if_false]
  show (Sem.run P (forIn fields (none,()) body) w).andThen _=_
  rw [hr']
  cases bs.all id<;>simp [Sem.run_pure]
 ·unfold eqGuard
  cases op<;>first|rfl|(simp [run_program,hg,Sem.run_bind];done)
theorem binO_ok (H:EnvOK E) {op:BinOp} {T:Nat} {xo yo:Operand} {x y:V} {a b:Value} {k:V→Prop} (hx:VR m q x a) (hy:VR m q y b) (h:binO E op T x y k):BinS E.P m q w op T xo yo a b k:=by
 unfold binO at h
 split at h
 ·split at h
  ·rename_i hk
   have:=ikEq_ok hk
   subst this
   cases hx;cases hy
   exact intOp_ok h
  ·exact h.elim
 ·cases hx;cases hy;exact strOp_ok h
 ·split at h
  case h_1=>exact h.elim
  case h_3=>exact h.elim
  rename_i n hne hn
  have hf:=(H.eqs T n hn).resolve_left hne
  cases hx with
  | @agg _ xs us hl he =>
   cases hy with
   | @agg _ ys vs hl' he' =>
    split at h
    ·obtain ⟨bs,g1,g2⟩:=eqCells_ok _ _ _ _ _ _ ⟨hl,he⟩ ⟨hl',he'⟩ h
     obtain ⟨e1,e2⟩:=run_eqAgg (w:=w) hf g1 9998
     refine .mk (e2 _ _ _) g2 .bool ?_
     simp only [binOp,Op.equal,Sem.run_bind,show Op.maxDepth=9998+2 from rfl,e1,Result.andThen_ok,Sem.run_pure]
    ·obtain ⟨bs,g1,g2⟩:=eqCells_ok _ _ _ _ _ _ ⟨hl,he⟩ ⟨hl',he'⟩ h
     obtain ⟨e1,e2⟩:=run_eqAgg (w:=w) hf g1 9998
     refine .mk (e2 _ _ _) g2 .bool ?_
     simp only [binOp,Op.equal,Sem.run_bind,show Op.maxDepth=9998+2 from rfl,e1,Result.andThen_ok,Sem.run_pure]
    ·exact h.elim
 ·rename_i enc l
  replace h:=tiK_ok H h
  obtain ⟨i,h,hT,-,d,hd,hk⟩:=h
  obtain ⟨oa,n,c,rfl,hnil⟩:∃ oa n c,a=.slice oa n c∧(oa.isNone=true→l=[]):=by
   cases hx with
   | sl0=>exact ⟨_,_,_,rfl,fun _=>rfl⟩
   | sl=>exact ⟨_,_,_,rfl,fun h=>by cases h⟩
  cases hy
  split at h
  ·rename_i El hkind
   rw [hkind] at hk
   rw [kind_slice hk] at hd
   refine .mk guard_ll (h _ hnil) .bool ?_
   have he:=fun dd=>run_equalIn_nil (P:=E.P) (oa:=oa) (ln:=n) (cap:=c) hd dd w
   simp only [binOp,Op.equal,Sem.run_bind,show Op.maxDepth=9999+1 from rfl,he,Result.andThen_ok,Sem.run_pure]
  ·rename_i El hkind
   rw [hkind] at hk
   rw [kind_slice hk] at hd
   refine .mk guard_ll (h _ hnil) .bool ?_
   have he:=fun dd=>run_equalIn_nil (P:=E.P) (oa:=oa) (ln:=n) (cap:=c) hd dd w
   simp only [binOp,Op.equal,Sem.run_bind,show Op.maxDepth=9999+1 from rfl,he,Result.andThen_ok,Sem.run_pure]
  ·exact h.elim
 ·replace h:=tiK_ok H h
  obtain ⟨i,h,hT,-,d,hd,hk⟩:=h
  split at h
  ·rename_i hkind hb1 hb2
   rw [hkind] at hk
   rw [kind_bool hk] at hd
   rw [boolOf_ok hb1 hx,boolOf_ok hb2 hy]
   exact .mk guard_bb h .bool (bb_eql hd w)
  ·rename_i hkind hb1 hb2
   rw [hkind] at hk
   rw [kind_bool hk] at hd
   rw [boolOf_ok hb1 hx,boolOf_ok hb2 hy]
   exact .mk guard_bb h .bool (bb_neq hd w)
  ·exact h.elim
theorem nilO_ok (H:EnvOK E) {op:BinOp} {T:Nat} {xo:Operand} {x:V} {a:Value} {k:V→Prop} (hx:VR m q x a) (h:nilO E op T x k):BinS E.P m q w op T xo (.const .nilIface) a .nilIface k:=by
 unfold nilO at h
 replace h:=tiK_ok H h
 obtain ⟨i,h,hT,-,d,hd,hk⟩:=h
 have g:∀ a,(eqGuard op T xo (.const .nilIface) a .nilIface).run E.P w=.ok () w:=fun a=>by
  unfold eqGuard
  cases op<;>first|rfl|(cases a<;>first|rfl|simp)
 have e1:∀ dd w,i.kind=.iface→(Op.equalIn (dd+1) T .nilIface .nilIface).run E.P w=.ok true w:=fun dd w hi=>by
  rw [hi] at hk
  obtain ⟨ms,rfl⟩:=kind_iface hk
  simp only [Op.equalIn,Sem.run_bind,run_underlying hd,Result.andThen_ok,Sem.run_pure]
 have e2:∀ dd w t u,i.kind=.iface→(Op.equalIn (dd+1) T (.iface t u) .nilIface).run E.P w=.ok false w:=fun dd w t u hi=>by
  rw [hi] at hk
  obtain ⟨ms,rfl⟩:=kind_iface hk
  simp only [Op.equalIn,Sem.run_bind,run_underlying hd,Result.andThen_ok,Sem.run_pure]
 split at h
 ·rename_i hi
  cases hx
  refine .mk (g _) h .lit ?_
  simp only [binOp,Op.equal,Sem.run_bind,show Op.maxDepth=9999+1 from rfl,e1 _ _ hi,Result.andThen_ok,Sem.run_pure]
 ·rename_i hi
  cases hx
  refine .mk (g _) h .lit ?_
  simp only [binOp,Op.equal,Sem.run_bind,show Op.maxDepth=9999+1 from rfl,e1 _ _ hi,Result.andThen_ok,Sem.run_pure]
  rfl
 ·rename_i hi
  cases hx
  refine .mk (g _) h .lit ?_
  simp only [binOp,Op.equal,Sem.run_bind,show Op.maxDepth=9999+1 from rfl,e2 _ _ _ _ hi,Result.andThen_ok,Sem.run_pure]
 ·rename_i hi
  cases hx
  refine .mk (g _) h .lit ?_
  simp only [binOp,Op.equal,Sem.run_bind,show Op.maxDepth=9999+1 from rfl,e2 _ _ _ _ hi,Result.andThen_ok,Sem.run_pure]
  rfl
 ·exact h.elim
theorem VR.addr {u:Value} {r i o:Nat} (h:VR m q (.ptr r i o) u):∃ b off,u=.pointer (some ⟨b,off+o,none⟩)∧∀ o',VR m q (.ptr r i o') (.pointer (some ⟨b,off+o',none⟩)):=by
 cases h with
 | @ptr _ _ _ _ b len cap k h=>exact ⟨b,i*k,rfl,fun o'=>.ptr h⟩
theorem VR.addrE {x:V} {u:Value} {o:Nat} (h:VR m q (.elt x o) u):∃ b off,u=.pointer (some ⟨b,off+o,none⟩)∧∀ o',VR m q (.elt x o') (.pointer (some ⟨b,off+o',none⟩)):=by
 cases h with
 | @elt _ _ _ b off arr T fz us h3 h5 h6=>exact ⟨b,off,rfl,fun o'=>.elt us h3 h5 h6⟩
theorem run_fieldAt {T f:Nat} {fields:Array Field} {FT off:Nat} {fi:TI} {b o:Nat} (hd:P.underlying T=some (.struct fields)) (hf:(fields.toList.map fun f => (f.type, f.offset))[f]?=some (FT, off)) (hFT:tyOf P FT=some (fi.zero, fi.size, fi.bytes, fi.agg)) (hs:fi.size≠0) :
  (Instr.fieldAt T (.pointer (some ⟨b,o,none⟩)) f).run P w=.ok (.pointer (some ⟨b,o+off,none⟩)) w:=by
 simp only [List.getElem?_map,Option.map_eq_some_iff,Prod.mk.injEq] at hf
 obtain ⟨fd,h1,rfl,rfl⟩:=hf
 have h2:fields[f]?=some fd:=by simpa using h1
 simp [Instr.fieldAt,run_underlying hd,h2,Instr.sureAddr,fieldPlace,run_sizeOf hFT,hs,add_none]
theorem run_field {T f:Nat} {fields:Array Field} {FT off:Nat} {fi:TI} {cs:List V} {us:List Value} {k:V→Prop} (hd:P.underlying T=some (.struct fields)) (hf:(fields.toList.map fun f => (f.type, f.offset))[f]?=some (FT, off)) (hFT:tyOf P FT=some (fi.zero, fi.size, fi.bytes, fi.agg))
  (hv:VRL m q cs us) (h:loadK fi.agg fi.size cs off k):∃ v u,k v∧VR m q v u∧(Instr.field T (.agg us.toArray) f).run P w=.ok u w:=by
 simp only [List.getElem?_map,Option.map_eq_some_iff,Prod.mk.injEq] at hf
 obtain ⟨fd,h1,rfl,rfl⟩:=hf
 have h2:fields[f]?=some fd:=by simpa using h1
 unfold loadK at h
 cases hagg:fi.agg with
 | false =>
  rw [hagg] at h hFT
  simp only at h
  split at h
  ·rename_i v hv'
   rw [nth_eq] at hv'
   obtain ⟨u,g1,g2⟩:=hv.getElem hv'
   refine ⟨v,u,h,g2,?_⟩
   simp [Instr.field,run_underlying hd,h2,asAgg,part,run_isAgg hFT,g1]
  ·exact h.elim
 | true =>
  rw [hagg] at h hFT
  obtain ⟨g1,g2⟩:=takeK_ok _ _ _ h
  rw [dropL_eq] at g1 g2
  have hl:=hv.len
  refine ⟨_,.agg ((us.drop fd.offset).take fi.size).toArray,g2,.agg (by simp;omega) (fun i v u e e'=>?_),?_⟩
  ·rw [List.getElem?_take] at e e'
   split at e
   ·rename_i hi
    rw [if_pos hi] at e'
    rw [List.getElem?_drop] at e e'
    exact hv.el _ v u e e'
   ·cases e
  ·have:us.toArray.extract fd.offset (fd.offset+fi.size)=((us.drop fd.offset).take fi.size).toArray:=by simp
   simp [Instr.field,run_underlying hd,h2,asAgg,part,run_isAgg hFT,run_sizeOf hFT]
theorem run_indexAt {T El n i cap b off s by_:Nat} {kd:IntKind} {z:Value} {g:Bool} (hd:P.underlying T=some (.slice El)) (hE:tyOf P El=some (z, s, by_, g)) (hi:i < n) :
  (Instr.indexAt T (.slice (some ⟨b,off,none⟩) n cap) (.int kd (i:Int))).run P w=.ok (.pointer (some ⟨b,off+i*s,none⟩)) w:=by
 simp [Instr.indexAt,asIntOf,run_underlying hd,run_sizeOf hE,hi,add_none]
theorem idx_sl {q:Loc} {α:Type} {enc : α→V} {l:List α} {u:Value} {T El i s by_:Nat} {kd:IntKind} {z:Value} {g:Bool} (hv:VR m q (.sl enc l) u) (hd:P.underlying T=some (.slice El)) (hE:tyOf P El=some (z, s, by_, g)) (hi:i < l.length) (hs:(enc l[i]).cells.length=s) :
  ∃ u',(Instr.indexAt T u (.int kd (i:Int))).run P w=.ok u' w∧VR m q (.elt (enc l[i]) 0) u':=by
 cases hv with
 | sl0=>simp at hi
 | @sl _ _ _ _ b off arr T' fz cap k us h1 h2 h3 h4 h5 h6 =>
  have hk:k=s:=(h4 i hi).symm.trans hs
  subst hk
  exact ⟨_,run_indexAt hd hE hi,.elt (us i) h3 (fun j v e=>h5 i hi j v e) (fun j v e=>h6 i hi j v e)⟩
theorem idxO_ok (C:Cf w0 m0 rows R m q w) {v:V} {u:Value} {n:Int} {T El s by_:Nat} {kd:IntKind} {z:Value} {g:Bool} {k:V→Prop} (hv:VR m q v u) (hd:P.underlying T=some (.slice El)) (hE:tyOf P El=some (z, s, by_, g)) (h:idxO v n s rows k) :
  ∃ v' u',k v'∧VR m q v' u'∧(Instr.indexAt T u (.int kd n)).run P w=.ok u' w:=by
 unfold idxO at h
 split at h
 ·obtain ⟨i,rfl,hi,hs,h⟩:=h
  obtain ⟨u',g1,g2⟩:=idx_sl hv hd hE hi hs
  exact ⟨_,u',h,g2,g1⟩
 ·split at h
  ·rename_i kk els hr
   obtain ⟨hkk,i,rfl,hi,h⟩:=h
   have hkk:=Nat.eq_of_beq_eq_true hkk
   subst hkk
   rw [nth_eq] at hr
   obtain ⟨ob,cap,g1,g2,g3,g4,g5⟩:=C.rok.row _ _ hr
   cases hv with
   | own hq =>
    rw [g1] at hq;cases hq
    cases ob with
    | none=>have:=g4 rfl;omega
    | some b =>
     refine ⟨_,_,h,.ptr g1,?_⟩
     have:=run_indexAt (P:=P) (w:=w) (b:=b) (off:=0) (cap:=cap) (kd:=kd) hd hE hi
     simpa using this
  ·rename_i kk els hr
   obtain ⟨hkk,i,rfl,hi,h⟩:=h
   have hkk:=Nat.eq_of_beq_eq_true hkk
   subst hkk
   rw [nth_eq] at hr
   obtain ⟨ob,cap,g1,g2,g3,g4,g5⟩:=C.rok.row _ _ hr
   cases hv with
   | own hq =>
    rw [g1] at hq;cases hq
    cases ob with
    | none=>have:=g4 rfl;omega
    | some b =>
     refine ⟨_,_,h,.ptr g1,?_⟩
     have:=run_indexAt (P:=P) (w:=w) (b:=b) (off:=0) (cap:=cap) (kd:=kd) hd hE hi
     simpa using this
  ·rename_i α enc l hr
   obtain ⟨i,rfl,hi,hs,h⟩:=h
   rw [nth_eq] at hr
   obtain ⟨u',g1,g2⟩:=idx_sl (C.own_fz hr hv) hd hE hi hs
   exact ⟨_,u',h,g2.up (Mem.Le.refl m) (noLoc_le q),g1⟩
  ·exact h.elim
 ·exact h.elim
end
end Gv
end PartV10
section PartVM
namespace Gv
open Go Go.RowKit Gw
variable [Glob]
inductive KeyT (P:Program):KK→TypeId→Prop
 | int {K:TypeId} (h:P.underlying K=some (.int .i64)):KeyT P .int K
 | bool {K:TypeId} (h:P.underlying K=some .bool):KeyT P .bool K
 | pair {K:TypeId} (h:flatB P K [true,true]=true):KeyT P .pair K
theorem flat2 {P:Program} {K:TypeId} (h:flatB P K [true,true]=true):∃ f g:Field,P.underlying K=some (.struct #[f,g])∧P.underlying f.type=some (.int .i64)∧P.underlying g.type=some (.int .i64)∧f.offset=0∧g.offset=1:=by
 unfold flatB at h
 split at h
 case h_2=>cases h
 rename_i fields hd
 simp only [Bool.and_eq_true,Bool.not_eq_true'] at h
 obtain ⟨⟨⟨hs,hg⟩,hlen⟩,hall⟩:=h
 have hlen:=Nat.eq_of_beq_eq_true hlen
 obtain ⟨fs⟩:=fields
 match fs,hlen,hall with
 | [f,g],_,hall =>
  simp only [List.zipIdx_cons,List.zipIdx_nil,List.all_cons,List.all_nil,Bool.and_eq_true] at hall
  obtain ⟨⟨⟨-,h2⟩,h3⟩,⟨⟨-,h5⟩,h6⟩,-⟩:=hall
  refine ⟨f,g,hd,?_,?_,Nat.eq_of_beq_eq_true h2,Nat.eq_of_beq_eq_true h5⟩
  ·split at h3
   ·assumption
   ·rename_i e e';simp [nth] at e'
   ·cases h3
  ·split at h6
   ·assumption
   ·rename_i e e';simp [nth] at e'
   ·cases h6
section
variable {P:Program} {w:World} {kk:KK} {K:TypeId} {ks:List Int} {u:Value}
theorem run_checkKey (hT:KeyT P kk K) (hk:KeyV kk ks u) (e:Bool):(Instr.checkKey e 10000 K u).run P w=.ok () w:=by
 cases hT with
 | int h=>cases hk;unfold Instr.checkKey;simp [run_underlying h]
 | bool h=>cases hk;unfold Instr.checkKey;simp [run_underlying h]
 | pair h =>
  cases hk
  rename_i a b
  obtain ⟨f,g,hd,h1,h2,h3,h4⟩:=flat2 h
  have c1:∀ n,(Instr.checkKey e (n+1) f.type (.int .i64 a)).run P w=.ok () w:=fun n=>by unfold Instr.checkKey;simp [run_underlying h1]
  have c2:∀ n,(Instr.checkKey e (n+1) g.type (.int .i64 b)).run P w=.ok () w:=fun n=>by unfold Instr.checkKey;simp [run_underlying h2]
  have p1:(part f.type #[.int .i64 a,.int .i64 b] f.offset).run P w=.ok (.int .i64 a) w:=by
   simp [part,isAgg,run_underlying h1,h3]
  have p2:(part g.type #[.int .i64 a,.int .i64 b] g.offset).run P w=.ok (.int .i64 b) w:=by
   simp [part,isAgg,run_underlying h2,h4]
  unfold Instr.checkKey
  simp only [Sem.run_bind,run_underlying hd,Result.andThen_ok]
  simp only [←Array.forIn_toList,List.forIn_cons,List.forIn_nil,Sem.run_bind,Sem.run_pure,Result.andThen_ok]
  by_cases n1 : f.name ≠ "_" <;> by_cases n2 : g.name ≠ "_" <;>
   simp only [n1,n2,if_true,if_false,Sem.run_bind,Sem.run_pure,Result.andThen_ok,p1,p2,c1 9998,c2 9998,ite_true,ite_false,not_false_eq_true,ne_eq,not_true_eq_false]
theorem run_stays (hk:KeyV kk ks u):(Instr.keyThatStays u u).run P w=.ok u w:=by
 unfold Instr.keyThatStays
 have:Instr.sameBits 10000 u u=true:=by
  cases hk<;>simp [Instr.sameBits]
 simp [this]
def idxK {α:Type}:List (List Int × α)→List Int→Nat→Option Nat
 | [],_,_=>none
 | (k',_)::r,k,i=>if k'=k then some i else idxK r k (i+1)
theorem equal_key (hT:KeyT P kk K) (hk:KeyV kk ks u) {ks':List Int} {u':Value} (hk':KeyV kk ks' u'):(Op.equal K u u').run P w=.ok (decide (ks'=ks)) w:=by
 cases hT with
 | int h =>
  cases hk;cases hk'
  rename_i a b
  show (Op.equalIn (9999+1) K (.int .i64 a) (.int .i64 b)).run P w=_
  unfold Op.equalIn
  simp only [Sem.run_bind,run_underlying h,Result.andThen_ok]
  by_cases e:a=b
  ·subst e;simp
  ·have e':¬ b=a:=fun h=>e h.symm
   simp [e,e']
 | bool h =>
  cases hk;cases hk'
  rename_i a b
  show (Op.equalIn (9999+1) K (.bool a) (.bool b)).run P w=_
  unfold Op.equalIn
  simp only [Sem.run_bind,run_underlying h,Result.andThen_ok]
  cases a<;>cases b<;>simp [b2i]
 | pair h =>
  cases hk;cases hk'
  rename_i a b a' b'
  have e1:=(run_eqAgg (P:=P) (w:=w) (T:=K) (ks:=[true,true]) (us:=[.int .i64 a,.int .i64 b]) (vs:=[.int .i64 a',.int .i64 b']) h (.int (.int .nil)) 9998).1
  simp only [Op.equal,show Op.maxDepth=9998+2 from rfl]
  rw [show (#[Value.int .i64 a,Value.int .i64 b])=[Value.int .i64 a,Value.int .i64 b].toArray from rfl,show (#[Value.int .i64 a',Value.int .i64 b'])=[Value.int .i64 a',Value.int .i64 b'].toArray from rfl,e1]
  congr 1
  rw [Bool.eq_iff_iff]
  simp
  constructor<;>(rintro ⟨rfl,rfl⟩;exact ⟨rfl,rfl⟩)
theorem run_asking (hT:KeyT P kk K) (hk:KeyV kk ks u) {α:Type}:∀ (ents:List (List Int × α)) (es:List MapEntry) (i:Nat), es.length=ents.length→(∀ (j:Nat) k a, ents[j]?=some (k, a)→∃ e, es[j]?=some e∧KeyV kk k e.key) →
  ∃ r,(Instr.findAsking K u es i).run P w=.ok r w∧(match idxK ents ks i with|none=>r=none|some n=>∃ e,r=some (n,e.val)∧i≤n∧es[n-i]?=some e)
 | [],[],i,_,_=>⟨none,rfl,rfl⟩
 | (k',a)::r,e::es,i,hl,h=>by
  obtain ⟨e0,h1,h2⟩:=h 0 k' a rfl
  simp at h1;subst h1
  unfold Instr.findAsking idxK
  simp only [Sem.run_bind,equal_key hT hk h2,Result.andThen_ok]
  by_cases hkk:k'=ks
  ·simp only [hkk,decide_true,if_true,Sem.run_pure]
   exact ⟨_,rfl,e,rfl,Nat.le_refl _,by simp⟩
  ·obtain ⟨x,g1,g2⟩:=run_asking hT hk r es (i+1) (by simpa using hl) (fun j k a hj=>by simpa using h (j+1) k a (by simpa using hj))
   simp only [hkk,decide_false,if_false,Bool.false_eq_true]
   refine ⟨x,g1,?_⟩
   split at g2
   ·exact g2
   ·rename_i n hn
    obtain ⟨e',g3,g4,g5⟩:=g2
    refine ⟨e',g3,by omega,?_⟩
    rw [show n-i=(n-(i+1))+1 by omega]
    simpa using g5
theorem run_now (hT:KeyT P kk K) (hk:KeyV kk ks u) {d:TypeDesc} (hd:P.underlying K=some d) {α:Type}:∀ (ents:List (List Int × α)) (es:List MapEntry) (i:Nat), es.length=ents.length→(∀ (j:Nat) k a, ents[j]?=some (k, a)→∃ e, es[j]?=some e∧KeyV kk k e.key) →
  Instr.findNow d u es i=none∨∃ r,Instr.findNow d u es i=some r∧(match idxK ents ks i with|none=>r=none|some n=>∃ e,r=some (n,e.val)∧i≤n∧es[n-i]?=some e)
 | [],[],i,_,_=>.inr ⟨none,rfl,rfl⟩
 | (k',a)::r,e::es,i,hl,h=>by
  obtain ⟨e0,h1,h2⟩:=h 0 k' a rfl
  simp at h1;subst h1
  have hs:Instr.sameNow d u e.key=none∨Instr.sameNow d u e.key=some (decide (k'=ks)):=by
   cases hT with
   | int hu =>
    rw [hu] at hd;cases hd
    generalize e.key=v at h2
    cases hk;cases h2
    right
    rename_i x y
    by_cases e:x=y
    ·subst e;simp [Instr.sameNow]
    ·have e':¬ y=x:=fun h=>e h.symm
     simp [Instr.sameNow,e,e']
   | bool hu =>
    rw [hu] at hd;cases hd
    generalize e.key=v at h2
    cases hk;cases h2
    right
    rename_i x y
    cases x<;>cases y<;>simp [Instr.sameNow,b2i]
   | pair hf =>
    obtain ⟨f,g,hu,_⟩:=flat2 hf
    rw [hu] at hd;cases hd
    left
    generalize e.key=v at h2
    cases hk;cases h2;rfl
  unfold Instr.findNow idxK
  rcases hs with hs|hs
  ·left;rw [hs]
  ·rw [hs]
   by_cases hkk:k'=ks
   ·right
    simp only [hkk,decide_true,if_true]
    exact ⟨_,rfl,e,rfl,Nat.le_refl _,by simp⟩
   ·simp only [hkk,decide_false,if_false]
    rcases run_now hT hk hd r es (i+1) (by simpa using hl) (fun j k a hj=>by simpa using h (j+1) k a (by simpa using hj)) with g|⟨x,g1,g2⟩
    ·exact .inl g
    ·right
     refine ⟨x,g1,?_⟩
     split at g2
     ·exact g2
     ·rename_i n hn
      obtain ⟨e',g3,g4,g5⟩:=g2
      refine ⟨e',g3,by omega,?_⟩
      rw [show n-i=(n-(i+1))+1 by omega]
      simpa using g5
theorem run_find (hT:KeyT P kk K) (hk:KeyV kk ks u) {α:Type} {enc : α→V} {m:Mem} {ents:List (List Int × α)} {es:Array MapEntry} (hm:MapR m kk enc ents es) :
  ∃ r,(Instr.findKey K u es.toList).run P w=.ok r w∧(match idxK ents ks 0 with|none=>r=none|some n=>∃ e,r=some (n,e.val)∧es[n]?=some e):=by
 have hd:∃ d,P.underlying K=some d:=by
  cases hT with
  | int h=>exact ⟨_,h⟩
  | bool h=>exact ⟨_,h⟩
  | pair h=>obtain ⟨f,g,h,_⟩:=flat2 h;exact ⟨_,h⟩
 obtain ⟨d,hd⟩:=hd
 have h1:es.toList.length=ents.length:=by simpa using hm.1
 have h2:∀ (j:Nat) k a,ents[j]?=some (k,a)→∃ e,es.toList[j]?=some e∧KeyV kk k e.key:=fun j k a h=>by
  obtain ⟨e,g1,g2,_⟩:=hm.2 j k a h
  exact ⟨e,by simpa using g1,g2⟩
 have fin:∀ {r:Option (Nat × Value)},(match idxK ents ks 0 with|none=>r=none|some n=>∃ e,r=some (n,e.val)∧0≤n∧es.toList[n-0]?=some e)→(match idxK ents ks 0 with|none=>r=none|some n=>∃ e,r=some (n,e.val)∧es[n]?=some e):=fun {r} h=>by
  split at h
  ·exact h
  ·obtain ⟨e,g1,_,g2⟩:=h
   exact ⟨e,g1,by simpa using g2⟩
 unfold Instr.findKey
 simp only [Sem.run_bind,run_underlying hd,Result.andThen_ok]
 rcases run_now hT hk hd ents es.toList 0 h1 h2 with h|⟨r,h,hr⟩
 ·rw [h]
  obtain ⟨r,g1,g2⟩:=run_asking (w:=w) hT hk ents es.toList 0 h1 h2
  exact ⟨r,g1,fin g2⟩
 ·rw [h]
  exact ⟨r,rfl,fin hr⟩
theorem mget_idx {α:Type} {z : α}:∀ {ents:List (List Int × α)} {i:Nat},(match idxK ents ks i with|none=>mget z ents ks=z|some n=>i≤n∧ents[n-i]?=some (ks,mget z ents ks))
 | [],i=>rfl
 | (k',a)::r,i=>by
  unfold idxK mget
  by_cases h:k'=ks
  ·simp [h]
  ·simp only [h,if_false]
   have:=@mget_idx α z r (i+1)
   split at this
   ·exact this
   ·rename_i n hn
    refine ⟨by omega,?_⟩
    rw [show n-i=(n-(i+1))+1 by omega]
    simpa using this.2
theorem mput_idx {α:Type} {a : α}:∀ {ents:List (List Int × α)} {i:Nat},(match idxK ents ks i with|none=>mput ents ks a=ents++[(ks,a)]|some n=>i≤n∧mput ents ks a=ents.set (n-i) (ks,a))
 | [],i=>rfl
 | (k',b)::r,i=>by
  unfold idxK mput
  by_cases h:k'=ks
  ·simp [h]
  ·simp only [h,if_false]
   have:=@mput_idx α a r (i+1)
   split at this
   ·simp [this]
   ·rename_i n hn
    refine ⟨by omega,?_⟩
    rw [show n-i=(n-(i+1))+1 by omega]
    simp [this.2]
theorem idxK_lt {α:Type}:∀ {ents:List (List Int × α)} {i n:Nat},idxK ents ks i=some n→i≤n∧n < i+ents.length
 | [],i,n,h=>by cases h
 | (k',b)::r,i,n,h=>by
  unfold idxK at h
  split at h
  ·cases h;simp
  ·have:=idxK_lt h
   simp;omega
end
theorem KeyV.inj {kk:KK} {ks:List Int} {u u':Value} (h:KeyV kk ks u) (h':KeyV kk ks u'):u=u':=by
 cases h with
 | int=>cases h';rfl
 | bool =>
  rename_i b
  generalize hk:[b2i b]=ks at h'
  cases h' with
  | bool =>
   rename_i b'
   cases b<;>cases b'<;>first|rfl|simp [b2i] at hk
 | pair=>cases h';rfl
section
variable {P:Program} {w:World} {kk:KK} {T K El:TypeId} {ks:List Int} {u:Value} {m:Mem} {α:Type} {enc : α→V} {ents:List (List Int × α)} {es:Array MapEntry} {b clock:Nat}
theorem run_lookup (hT:P.underlying T=some (.map K El)) (hK:KeyT P kk K) (hk:KeyV kk ks u) (hb:w.heap[b]?=some (.map es clock)) (hm:MapR m kk enc ents es) {z : α} {zu:Value} (hz:(zeroValue El).run P w=.ok zu w) (hzu:VR m noLoc (enc z) zu) :
  ∃ v,(Instr.lookup T (.map (some b)) u false).run P w=.ok v w∧VR m noLoc (enc (mget z ents ks)) v:=by
 obtain ⟨r,h1,h2⟩:=run_find (w:=w) hK hk hm
 have h3:=@mget_idx _ ks α z ents 0
 unfold Instr.lookup
 simp only [Sem.run_bind,run_underlying hT,MapKept.run_getObj_map hb,Result.andThen_ok,Sem.run_pure,run_checkKey hK hk,h1]
 split at h2
 ·rename_i hn
  rw [hn] at h3
  subst h2
  simp only [Sem.run_bind,hz,Result.andThen_ok,Sem.run_pure]
  exact ⟨zu,rfl,by rw [h3];exact hzu⟩
 ·rename_i n hn
  rw [hn] at h3
  obtain ⟨e,rfl,he⟩:=h2
  simp only [Sem.run_pure,Result.andThen_ok]
  obtain ⟨e',g1,g2,g3,g4⟩:=hm.2 n _ _ (by simpa using h3.2)
  rw [he] at g1;cases g1
  exact ⟨e.val,rfl,g4⟩
theorem run_update (hT:P.underlying T=some (.map K El)) (hK:KeyT P kk K) (hk:KeyV kk ks u) (hb:w.heap[b]?=some (.map es clock)) (hm:MapR m kk enc ents es) {a : α} {v:Value} (hv1:v.oneCell'=true) (hv:VR m noLoc (enc a) v) :
  ∃ es' clock',(Instr.mapUpdate T (.map (some b)) u v).run P w=.ok () { w with heap:=w.heap.setIfInBounds b (.map es' clock') }∧MapR m kk enc (mput ents ks a) es':=by
 obtain ⟨r,h1,h2⟩:=run_find (w:=w) hK hk hm
 have h3:=@mput_idx _ ks α a ents 0
 unfold Instr.mapUpdate
 simp only [Sem.run_bind,run_underlying hT,MapKept.run_getObj_map hb,Result.andThen_ok,Sem.run_pure,run_checkKey hK hk,h1]
 split at h2
 ·rename_i hn
  rw [hn] at h3
  subst h2
  refine ⟨_,_,MapKept.run_setObj_map _ hb,by rw [h3];simp [hm.1],fun i k a' hi=>?_⟩
  rw [h3] at hi
  rcases Nat.lt_or_ge i ents.length with hlt|hge
  ·rw [List.getElem?_append_left hlt] at hi
   obtain ⟨e,g1,g2⟩:=hm.2 i k a' hi
   refine ⟨e,?_,g2⟩
   rw [Array.getElem?_push,if_neg (by have:=hm.1;omega)]
   exact g1
  ·have hlen:i < (ents++[(ks,a)]).length:=(List.getElem?_eq_some_iff.1 hi).1
   simp at hlen
   have:i=ents.length:=by omega
   subst this
   simp at hi
   obtain ⟨rfl,rfl⟩:=hi
   refine ⟨_,by rw [Array.getElem?_push,if_pos (by rw [hm.1])],hk,hv1,hv⟩
 ·rename_i n hn
  rw [hn] at h3
  obtain ⟨e,rfl,he⟩:=h2
  have hlt:=(idxK_lt hn).2
  have hlt2:n < es.size:=(Array.getElem?_eq_some_iff.1 he).1
  have hkey:e.key=u:=by
   have h4:=@mget_idx _ ks α a ents 0
   rw [hn] at h4
   obtain ⟨e',g1,g2,g3,g4⟩:=hm.2 n _ _ (by simpa using h4.2)
   rw [he] at g1;cases g1
   exact g2.inj hk
  simp only [he,Option.map_some,Option.getD_some,hkey,Sem.run_bind,run_stays hk,Result.andThen_ok]
  refine ⟨_,_,MapKept.run_setObj_map _ hb,by rw [h3.2];simp [hm.1],fun i k a' hi=>?_⟩
  rw [h3.2] at hi
  by_cases hin:i=n
  ·subst hin
   simp only [Nat.sub_zero] at hi
   rw [List.getElem?_set_self (by omega)] at hi
   cases hi
   refine ⟨{ e with key:=u,val:=v },?_,hk,hv1,hv⟩
   simp [Array.getElem?_modify,he]
  ·simp only [Nat.sub_zero] at hi
   rw [List.getElem?_set_ne (fun h=>hin h.symm)] at hi
   obtain ⟨e',g1,g2⟩:=hm.2 i k a' hi
   refine ⟨e',?_,g2⟩
   rw [Array.getElem?_modify,if_neg (fun h=>hin h.symm)]
   exact g1
end
section
variable {w0:Start} {w w':World} {m0 R m:Mem} {q:Loc} {rows:Rows} {E:Env} {K:V→Rows→Prop}
theorem kkOf_ok (H:EnvOK E) {T:TypeId} {kk:KK} (h:kkOf E T=some kk):KeyT E.P kk T:=by
 unfold kkOf at h
 split at h
 case h_2=>cases h
 rename_i i hi
 obtain ⟨hT,hz,d,hd,hk⟩:=H.tys T i hi
 split at h
 ·rename_i hkind
  cases h
  rw [hkind] at hk
  rw [kind_int hk] at hd
  exact .int hd
 ·rename_i hkind
  cases h
  rw [hkind] at hk
  rw [kind_bool hk] at hd
  exact .bool hd
 ·split at h
  ·rename_i he
   cases h
   exact .pair ((H.eqs _ _ he).resolve_left (by decide))
  ·cases h
 ·cases h
theorem keyK_ok {kk:KK} {v:V} {u:Value} {k:List Int→Prop} (hv:VR m q v u) (h:keyK kk v k):∃ ks,k ks∧KeyV kk ks u:=by
 unfold keyK at h
 split at h
 ·cases hv;exact ⟨_,h,.int⟩
 ·cases hv;exact ⟨_,h,.bool⟩
 ·cases hv;exact ⟨_,h,.bool⟩
 ·rename_i a b
  cases hv with
  | agg hl he =>
   rename_i us
   match us,hl with
   | [x,y],_ =>
    have e1:=he 0 _ _ rfl rfl
    have e2:=he 1 _ _ rfl rfl
    cases e1;cases e2
    exact ⟨_,h,.pair⟩
 ·exact h.elim
theorem kkEq_ok {a b:KK} (h:kkEq a b=true):a=b:=by cases a<;>cases b<;>first|rfl|cases h
theorem kind_map {K El:Nat} {d:TypeDesc} (h:kindB (.map K El) d=true):d=.map K El:=by
 cases d<;>first|(simp [kindB] at h;done)|skip
 simp only [kindB,Bool.and_eq_true] at h
 rw [Nat.eq_of_beq_eq_true h.1,Nat.eq_of_beq_eq_true h.2]
theorem mapK_ok (H:EnvOK E) (C:Cf w0 m0 rows R m q w) {T:Nat} {v:V} {u:Value} {k:(α:Type)→(enc : α→V)→List (List Int × α)→KK→Nat→Nat→Nat→Prop} (hv:VR m q v u) (h:mapK E T v rows k) :
  ∃ (α:Type) (enc : α→V) (ents:List (List Int × α)) (kk:KK) (kt et r b clock:Nat) (es:Array MapEntry),k α enc ents kk kt et r∧rows[r]?=some (.mp kt et kk enc ents)∧u=.map (some b)∧q r=some (some b,0,0,0)∧R b=some (.map es clock)∧MapR m kk enc ents es∧E.P.underlying T=some (.map kt et)∧KeyT E.P kk kt:=by
 unfold mapK at h
 replace h:=tiK_ok H h
 obtain ⟨i,h,hT,hz,d,hd,hk⟩:=h
 split at h
 case h_2=>exact h.elim
 rename_i Kt El r hkind
 rw [hkind] at hk
 rw [kind_map hk] at hd
 split at h
 case h_2=>exact h.elim
 rename_i α kt et kk enc ents hr
 split at h
 case h_2=>exact h.elim
 rename_i kk' h1 h2 h3
 split at h
 case h_2=>exact h.elim
 rename_i h4
 have h1:=Nat.eq_of_beq_eq_true h1
 have h2:=Nat.eq_of_beq_eq_true h2
 have h4:=kkEq_ok h4
 subst h1 h2 h4
 rw [nth_eq] at hr
 obtain ⟨b,es,clock,g1,g2,g3⟩:=C.rok.row r _ hr
 cases hv with
 | map hq =>
  rw [g1] at hq;cases hq
  exact ⟨α,enc,ents,kk,kt,et,r,b,clock,es,h,hr,rfl,g1,g2,g3,hd,kkOf_ok H h3⟩
theorem mapGetO_ok (H:EnvOK E) (C:Cf w0 m0 rows R m q w) {T:Nat} {mv kv:V} {um uk:Value} {k:V→Prop} (hm:VR m q mv um) (hk:VR m q kv uk) (h:mapGetO E T mv kv rows k) :
  ∃ v u,(Instr.lookup T um uk false).run E.P w=.ok u w∧k v∧VR m q v u:=by
 unfold mapGetO at h
 obtain ⟨α,enc,ents,kk,kt,et,r,b,clock,es,h,hr,rfl,g1,g2,g3,g4,g5⟩:=mapK_ok H C hm h
 obtain ⟨ks,h,hks⟩:=keyK_ok hk h
 replace h:=tiK_ok H h
 obtain ⟨e,h,hE,-⟩:=h
 obtain ⟨zv,⟨z,rfl,h⟩,hz⟩:=constK_ok (m:=m) (q:=noLoc) h
 obtain ⟨v,e1,e2⟩:=run_lookup g4 g5 hks (C.sit.own _ _ g2).2.1 g3 (run_zero hE) hz
 exact ⟨_,v,e1,h,e2.up (Mem.Le.refl m) (noLoc_le q)⟩
theorem mapPutO_ok (H:EnvOK E) (C:Cf w0 m0 rows R m q w) {T:Nat} {mv kv v:V} {um uk uv:Value} (hm:VR m q mv um) (hk:VR m q kv uk) (hv:VR m q v uv) (h:mapPutO E T mv kv v rows K) :
  ∃ w',(Instr.mapUpdate T um uk uv).run E.P w=.ok () w'∧∃ rows' R',K (.tup []) rows'∧Cf w0 m0 rows' R' m q w':=by
 unfold mapPutO at h
 obtain ⟨α,enc,ents,kk,kt,et,r,b,clock,es,h,hr,rfl,g1,g2,g3,g4,g5⟩:=mapK_ok H C hm h
 obtain ⟨ks,h,hks⟩:=keyK_ok hk h
 obtain ⟨a,rfl,hf,hp,h⟩:=h
 obtain ⟨hlt,h⟩:=setK_ok _ _ _ _ h
 have ho:=(C.sit.own _ _ g2).2.1
 obtain ⟨es',clock',e1,e2⟩:=run_update g4 g5 hks ho g3 (hv.one hf) (hv.free hp)
 have hbs:b < w.heap.size:=C.sit.lt g2
 refine ⟨_,e1,_,R.put b (.map es' clock'),h,?_⟩
 have hbel:Bel [b] w { w with heap:=w.heap.setIfInBounds b (.map es' clock') }:=⟨rfl,rfl,rfl,by simp,fun i hi hx=>by
  show (w.heap.setIfInBounds b _)[i]?=_
  rw [Array.getElem?_setIfInBounds,if_neg (by intro e;subst e;simp at hx)]⟩
 have hnew:({ w with heap:=w.heap.setIfInBounds b (.map es' clock') }:World).heap[b]?=some (.map es' clock'):=by
  show (w.heap.setIfInBounds b _)[b]?=_
  rw [Array.getElem?_setIfInBounds,if_pos rfl,if_pos hbs]
 exact C.store hr rfl g1 g2 hbel hnew ⟨b,es',clock',g1,by simp [Mem.put],e2⟩
end
end Gv
end PartVM
section PartV11
namespace Gv
open Go Go.RowKit Gw
variable [Glob]
section
variable {w0:Start} {w w':World} {m0 R m:Mem} {q:Loc} {rows:Rows} {E:Env} {K:V→Rows→Prop} {P:Program}
def CallOK (E:Env) (call:CallT):Prop :=
 ∀ w0 m0 f args rows k R m q w us,Cf w0 m0 rows R m q w→VRL m q args us→call f args rows k→callable E.P f=true∧Calls E.P f us.toArray w fun e w'=>∃ u,e=.returned u∧After w0 m0 m q k u w'
theorem lenO_ok (C:Cf w0 m0 rows R m q w) {v:V} {u:Value} {k:Nat→Prop} (hv:VR m q v u) (h:lenO v rows k):∃ oa n cap,u=.slice oa n cap∧n≤MAXL∧k n:=by
 have sl:∀ {q:Loc} {α:Type} {enc : α→V} {l:List α} {u:Value},VR m q (.sl enc l) u→k l.length→∃ oa n cap,u=.slice oa n cap∧n≤MAXL∧k n:=by
  intro q α enc l u h hk
  cases h with
  | sl0=>exact ⟨_,_,_,rfl,by simp,hk⟩
  | sl us h1 h2=>exact ⟨_,_,_,rfl,by omega,hk⟩
 unfold lenO at h
 split at h
 ·exact sl hv h
 ·cases hv;exact ⟨_,_,_,rfl,by simp,h⟩
 ·split at h
  ·rename_i kk els hr
   rw [nth_eq] at hr
   obtain ⟨ob,cap,g1,g2,g3,g4,g5⟩:=C.rok.row _ _ hr
   cases hv with
   | own hq=>rw [g1] at hq;cases hq;exact ⟨_,_,_,rfl,by omega,h⟩
  ·rename_i kk els hr
   rw [nth_eq] at hr
   obtain ⟨ob,cap,g1,g2,g3,g4,g5⟩:=C.rok.row _ _ hr
   cases hv with
   | own hq=>rw [g1] at hq;cases hq;exact ⟨_,_,_,rfl,by omega,h⟩
  ·rename_i α enc l hr
   rw [nth_eq] at hr
   exact sl (C.own_fz hr hv) h
  ·exact h.elim
 ·exact h.elim
theorem run_makeSlice {T El n:Nat} {e:TI} (hT:P.underlying T=some (.slice El)) (hE:tyOf P El=some (e.zero, e.size, e.bytes, e.agg)) (hz:e.zero.cells.size=e.size) (hb:n*e.bytes≤140737488355328) (he:1≤e.bytes) :
  (Instr.makeSlice T (.int .i64 (n:Int)) (.int .i64 (n:Int))).run P w=.ok (.slice (some ⟨w.heap.size,0,none⟩) n n) (w.alloc (.cells (Builtin.zeroCells e.zero.cells n) El)):=by
 obtain ⟨i,u,hi,hu,hiz,hik,hie,hg⟩:=tyOf_parts hE
 have hmul:n*1≤n*e.bytes:=Nat.mul_le_mul_left _ he
 have hw:IntKind.i64.wrap (n:Int)=n:=wrap_i64 ⟨by omega,by omega⟩
 have hti:∀ w,(typeInfo El).run P w=.ok i w:=fun w=>by simp [typeInfo,hi]
 have has:∀ w,(asInt (.int .i64 (n:Int))).run P w=.ok (n:Int) w:=fun w=>rfl
 have hbb:¬ ((e.bytes:Int)*(n:Int) > 2 ^ 48):=by
  have:((e.bytes*n:Nat):Int)=(e.bytes:Int)*(n:Int):=by simp
  have h2:e.bytes*n=n*e.bytes:=Nat.mul_comm _ _
  omega
 have h0:¬ ((n:Int) < 0):=by omega
 have hcells:(if n*e.size=0 then (pure #[]:Sem (Array Value)) else do pure (←zeroValue El).cells).run P w=.ok (if n*e.size=0 then #[] else e.zero.cells) w:=by
  split
  ·rfl
  ·simp only [Sem.run_bind,run_zero hE,Result.andThen_ok,Sem.run_pure]
 have harr:(Array.range (n*e.size)).map ((if n*e.size=0 then #[] else e.zero.cells)[· % (if n*e.size=0 then #[] else e.zero.cells).size]!)=Builtin.zeroCells e.zero.cells n:=by
  unfold Builtin.zeroCells
  rw [hz]
  by_cases h:n*e.size=0
  ·rw [h];simp
  ·rw [if_neg h,hz]
 simp only [Instr.makeSlice,Sem.run_bind,run_underlying hT,Result.andThen_ok,has,hti,hie,hw]
 rw [if_neg (by simp at hbb ⊢;omega)]
 simp only [Sem.run_bind,run_askRoom,Result.andThen_ok,run_sizeOf hE,Int.toNat_natCast]
 by_cases h:n*e.size=0
 ·rw [if_pos h] at harr
  rw [if_pos h]
  simp only [Sem.run_bind,Sem.run_pure,Result.andThen_ok,harr,newRow,run_newObj]
  rfl
 ·rw [if_neg h] at harr
  rw [if_neg h]
  simp only [Sem.run_bind,Sem.run_pure,Result.andThen_ok,run_zero hE,harr,newRow,run_newObj]
  rfl
theorem zero_row {z:V} {zu:Value} {c k:Nat} {xs:List Value} (hz:VR m q z zu) (hx:zu.cells=xs.toArray) (hk:z.cells.length=k) (hp:allPure z.cells=true) (hf:allFlat z.cells=true):ElsR m k (List.replicate c z) (Builtin.zeroCells zu.cells c):=by
 obtain ⟨us,hu,hus,h1⟩:=cells_ok hz hf
 have hsz:zu.cells.size=k:=by rw [hu,List.size_toArray,←hus.len,hk]
 intro i x hi
 have hx':=List.getElem?_eq_some_iff.1 hi
 obtain ⟨hlt,rfl⟩:=hx'
 simp only [List.length_replicate] at hlt
 simp only [List.getElem_replicate]
 refine ⟨hk,fun j v hj=>?_⟩
 have hjk:j < k:=by rw [←hk];exact (List.getElem?_eq_some_iff.1 hj).1
 obtain ⟨u,g1,g2⟩:=hus.getElem hj
 have h2:=index_lt hlt hjk
 refine ⟨u,?_,h1 u (List.mem_of_getElem? g1),g2.free (allPure_ok _ hp v (List.mem_of_getElem? hj))⟩
 unfold Builtin.zeroCells
 rw [hsz]
 have h3:(i*k+j) % k=j:=by rw [Nat.mul_comm,Nat.mul_add_mod];exact Nat.mod_eq_of_lt hjk
 have h4:zu.cells[j]?=some u:=by rw [hu];simpa using g1
 have h5:zu.cells[j]! = u:=by
  rw [getElem!_def,h4]
 simp [h2,h3,h5]
theorem run_append_zero {T U El n:Nat} {e:TI} (hT:P.underlying T=some (.slice El)) (hE:tyOf P El=some (e.zero, e.size, e.bytes, e.agg)) (hz:e.zero.cells.size=e.size) (hU:P.underlying U=some (.int .i64)) (he:1≤e.bytes) (hn:1≤n) (hb:n*e.bytes≤140737488355328) (typ:TypeId) :
  ∃ nc,n≤nc∧nc≤MAXL∧(Builtin.append_ #[T,U] typ #[.slice none 0 0,.int .i64 (n:Int)]).run P w=.ok (.slice (some ⟨w.heap.size,0,none⟩) n nc) (w.drew.alloc (.cells (Builtin.zeroCells e.zero.cells n++Builtin.zeroCells e.zero.cells (nc-n)) El)):=by
 obtain ⟨i,u,hi,hu,hiz,hik,hie,hg⟩:=tyOf_parts hE
 have hfit:=growslice_fits (need:=n) (old:=0) (bytes:=e.bytes) (by omega) hb
 have hmul:n*1≤n*e.bytes:=Nat.mul_le_mul_left _ he
 have h63:¬ ((n:Int) > IntKind.i64.max∧(True∨e.bytes=0)):=by
  rintro ⟨h,_⟩
  have:IntKind.i64.max=9223372036854775807:=rfl
  omega
 have h63':¬ ((n:Int) > IntKind.i64.max):=fun h=>h63 ⟨h,.inl trivial⟩
 have h48:¬ (Builtin.nextslicecap n 0*e.bytes > 2 ^ 48):=by omega
 let nc:=(Question.appendCap n 0 El).cut (w.tape w.drawn (.appendCap n 0 El))
 have hnc:n≤nc:=by show n≤_;simp only [Question.cut,nc];omega
 have hnc2:nc≤9223372036854775807:=by
  have h:=Nat.mod_lt (w.tape w.drawn (.appendCap n 0 El)) (show 0 < 2 ^ 63-n by omega)
  show n+_ % (2 ^ 63-n)≤_
  omega
 refine ⟨nc,hnc,hnc2,?_⟩
 have hq:(choose (.appendCap n 0 El)).run P w=.ok nc w.drew:=by
  simp only [run_choose,Question.forced,Bool.false_eq_true,if_false];rfl
 have hti:∀ w,(typeInfo El).run P w=.ok i w:=fun w=>by simp [typeInfo,hi]
 have hw:IntKind.i64.wrap (n:Int)=n:=wrap_i64 ⟨by omega,by omega⟩
 have hlt0:¬ ((n:Int) < 0):=by omega
 have hbb:¬ ((n:Int)*(e.bytes:Int) > 2 ^ 48):=by
  have:((n*e.bytes:Nat):Int)=(n:Int)*(e.bytes:Int):=by simp
  omega
 have happ:(if n*e.size=0 then (pure #[]:Sem (Array Value)) else do pure (Builtin.zeroCells (←zeroValue El).cells n)).run P w.drew=.ok (Builtin.zeroCells e.zero.cells n) w.drew:=by
  split
  ·rename_i h0
   have:Builtin.zeroCells e.zero.cells n=#[]:=by
    apply Array.eq_empty_of_size_eq_zero
    rw [zeroCells_size,hz];exact h0
   rw [this];rfl
  ·simp only [Sem.run_bind,run_zero hE,Result.andThen_ok,Sem.run_pure]
 simp only [Builtin.append_]
 simp only [show (#[T,U]:Array TypeId)[0]?=some T from rfl,show (#[T,U]:Array TypeId)[1]?=some U from rfl,show (#[Value.slice none 0 0,.int .i64 (n:Int)]:Array Value)[0]?=some (Value.slice none 0 0) from rfl,show (#[Value.slice none 0 0,.int .i64 (n:Int)]:Array Value)[1]?=some (.int .i64 (n:Int)) from rfl]
 have has:∀ w,(asInt (.int .i64 (n:Int))).run P w=.ok (n:Int) w:=fun w=>rfl
 have hfc:∀ w,(Builtin.firstCells e.size 0 (.slice none 0 0)).run P w=.ok #[] w:=fun w=>by simp [Builtin.firstCells]
 simp only [Sem.run_bind,run_underlying hT,run_underlying hU,Result.andThen_ok,run_sizeOf hE,Sem.run_pure,if_true,has,hw,if_neg hlt0,hti,hie,if_neg hbb,Int.toNat_natCast,Nat.zero_add,Nat.le_zero_eq]
 rw [if_neg (show ¬ n=0 by omega)]
 simp only [Sem.run_bind,hti,Result.andThen_ok,hie,if_neg h63,if_neg h48,hq,run_askRoom,hfc,Sem.run_pure,Bool.not_true,Bool.false_eq_true,if_false,happ,run_zero hE,newRow,run_newObj]
 simp
 rfl
theorem builtO_ok (H:EnvOK E) (C:Cf w0 m0 rows R m q w) {b:Builtin} {ats:Array TypeId} {ty:TypeId} {cs:Array Bool} {vs:List V} {us:List Value} (hv:VRL m q vs us) (h:builtO E b ats.toList vs rows K) :
  Nx E.P ((builtin b ats ty cs us.toArray).run E.P w) (After w0 m0 m q K):=by
 have one:∀ {v:V} {us:List Value},VRL m q [v] us→∃ u,us=[u]∧VR m q v u:=fun {v us} h=>by
  have hl:=h.len
  match us,hl with
  | [u],_=>exact ⟨u,rfl,h.el 0 v u rfl rfl⟩
 have two:∀ {v v':V} {us:List Value},VRL m q [v,v'] us→∃ u u',us=[u,u']∧VR m q v u∧VR m q v' u':=fun {v v' us} h=>by
  have hl:=h.len
  match us,hl with
  | [u,u'],_=>exact ⟨u,u',rfl,h.el 0 v u rfl rfl,h.el 1 v' u' rfl rfl⟩
 unfold builtO at h
 split at h
 ·rename_i T v hats
  obtain ⟨u,rfl,hu⟩:=one hv
  obtain rfl:ats=#[T]:=Array.ext' (by simpa using hats)
  replace h:=tiK_ok H h
  obtain ⟨i,h,hT,-,d,hd,hk⟩:=h
  split at h
  ·exact h.elim
  ·rename_i El hkind hns
   rw [hkind] at hk
   rw [kind_slice hk] at hd
   obtain ⟨oa,n,cap,rfl,g1,g2⟩:=lenO_ok C hu h
   have hr:(builtin .len #[T] ty cs #[.slice oa n cap]).run E.P w=.ok (.value (.int .i64 n)) w:=by
    simp [builtin,Builtin.len_,run_underlying hd,goInt]
   rw [show ([Value.slice oa n cap].toArray)=#[Value.slice oa n cap] from rfl,hr]
   exact After.same C (g2 g1) .int
  ·rename_i s hkind
   rw [hkind] at hk
   rw [kind_str hk] at hd
   cases hu with
   | str hl =>
    have hr:(builtin .len #[T] ty cs #[Gw.str s]).run E.P w=.ok (.value (.int .i64 s.length)) w:=by
     simp [builtin,Builtin.len_,run_underlying hd,goInt,Gw.str,str_size]
    rw [show ([Gw.str s].toArray)=#[Gw.str s] from rfl,hr]
    exact After.same C (h hl) .int
  ·rename_i hkind
   obtain ⟨α,enc,ents,kk,kt,et,r,b,clock,es,h,hr0,rfl,g1,g2,g3,g4,g5⟩:=mapK_ok H C hu h
   have hb:=(C.sit.own _ _ g2).2.1
   have hr:(builtin .len #[T] ty cs #[.map (some b)]).run E.P w=.ok (.value (.int .i64 ents.length)) w:=by
    simp [builtin,Builtin.len_,run_underlying g4,goInt,MapKept.run_getObj_map hb,g3.1]
   rw [show ([Value.map (some b)].toArray)=#[Value.map (some b)] from rfl,hr]
   exact After.same C h .int
  ·exact h.elim
 ·rename_i T hats
  obtain ⟨u,rfl,hu⟩:=one hv
  obtain rfl:ats=#[T]:=Array.ext' (by simpa using hats)
  replace h:=tiK_ok H h
  obtain ⟨i,h,hT,-,d,hd,hk⟩:=h
  split at h
  case h_2=>exact h.elim
  rename_i El hkind
  rw [hkind] at hk
  rw [kind_slice hk] at hd
  cases hu
  have hr:(builtin .cap #[T] ty cs #[.slice none 0 0]).run E.P w=.ok (.value (.int .i64 0)) w:=by
   simp [builtin,Builtin.cap_,run_underlying hd,goInt]
  rw [show ([Value.slice none 0 0].toArray)=#[Value.slice none 0 0] from rfl,hr]
  exact After.same C h .int
 ·rename_i T U n hats
  obtain ⟨u,u',rfl,hu,hu'⟩:=two hv
  obtain rfl:ats=#[T,U]:=Array.ext' (by simpa using hats)
  replace h:=tiK_ok H h
  obtain ⟨iu,h,hTU,-,du,hdu,hku⟩:=h
  split at h
  case h_2=>exact h.elim
  rename_i hkindu
  rw [hkindu] at hku
  rw [kind_int hku] at hdu
  replace h:=tiK_ok H h
  obtain ⟨i,h,hT,-,d,hd,hk⟩:=h
  split at h
  case h_2=>exact h.elim
  rename_i El hkind
  rw [hkind] at hk
  rw [kind_slice hk] at hd
  replace h:=tiK_ok H h
  obtain ⟨e,h,hE,hzs,-⟩:=h
  split at h
  case h_2=>exact h.elim
  rename_i hble
  have he1:1≤e.bytes:=by simpa [Nat.ble_eq] using hble
  replace h:=constK_ok (m:=m) (q:=q) h
  obtain ⟨z,h,hz⟩:=h
  split at h
  case h_2=>exact h.elim
  rename_i hzl hzp hzf
  have hzl:=Nat.eq_of_beq_eq_true hzl
  obtain ⟨c,rfl,hc1,hcb,h⟩:=h
  have h:=pushK_ok _ _ _ _ h
  rw [Nat.zero_add] at h
  cases hu;cases hu'
  obtain ⟨nc,g1,g2,hr⟩:=run_append_zero (P:=E.P) (w:=w) hd hE hzs hdu he1 hc1 hcb ty
  have hr':(builtin .append #[T,U] ty cs #[.slice none 0 0,.int .i64 (c:Int)]).run E.P w=.ok (.value (.slice (some ⟨w.heap.size,0,none⟩) c nc)) (w.drew.alloc (.cells (Builtin.zeroCells e.zero.cells c++Builtin.zeroCells e.zero.cells (nc-c)) El)):=by
   simp only [builtin,Sem.run_bind,hr,Result.andThen_ok,Sem.run_pure]
  rw [show ([Value.slice none 0 0,Value.int .i64 (c:Int)].toArray)=#[.slice none 0 0,.int .i64 (c:Int)] from rfl,hr']
  obtain ⟨xs,hxs,-,-⟩:=cells_ok hz hzf
  have hrow:=zero_row (c:=c) hz hxs hzl hzp hzf
  have hrow':ElsR m e.size (List.replicate c z) (Builtin.zeroCells e.zero.cells c++Builtin.zeroCells e.zero.cells (nc-c)):=fun i x hi=>by
   obtain ⟨h1,h2⟩:=hrow i x hi
   refine ⟨h1,fun j v hj=>?_⟩
   obtain ⟨u,h3,h4⟩:=h2 j v hj
   have hlt:=(Array.getElem?_eq_some_iff.1 h3).1
   exact ⟨u,by rw [Array.getElem?_append_left hlt];exact h3,h4⟩
  have C2:=C.row (Bel.drew [] w) (els:=List.replicate c z) (k:=e.size) (cap:=nc) (arr:=Builtin.zeroCells e.zero.cells c++Builtin.zeroCells e.zero.cells (nc-c)) El (by
   have:nc*e.size=c*e.size+(nc-c)*e.size:=by rw [←Nat.add_mul];congr 1;omega
   simp [zeroCells_size,hzs,this]) (by simpa using g1) g2 hrow'
  refine ⟨_,_,_,_,_,h,C2,Mem.Le.refl m,C.le_add _,?_⟩
  have:=VR.own (m:=m) (add_self q rows.length (some w.drew.heap.size,(List.replicate c z).length,nc,e.size))
  simpa using this
 ·rename_i a b
  obtain ⟨u,u',rfl,hu,hu'⟩:=two hv
  cases hu;cases hu'
  have hr:(builtin .min ats ty cs #[.int .i64 a,.int .i64 b]).run E.P w=.ok (.value (.int .i64 (min a b))) w:=by
   have:(if b < a then b else a)=min a b:=by rw [Int.min_def];split<;>split<;>omega
   simp [builtin,Builtin.min_,Builtin.min2,this]
  rw [show ([Value.int .i64 a,Value.int .i64 b].toArray)=#[.int .i64 a,.int .i64 b] from rfl,hr]
  exact After.same C h .int
 ·rename_i a b
  obtain ⟨u,u',rfl,hu,hu'⟩:=two hv
  cases hu;cases hu'
  have hr:(builtin .max ats ty cs #[.int .i64 a,.int .i64 b]).run E.P w=.ok (.value (.int .i64 (max a b))) w:=by
   simp [builtin,Builtin.max_,Builtin.max2]
   rw [Int.max_def];split<;>split<;>first|rfl|omega
  rw [show ([Value.int .i64 a,Value.int .i64 b].toArray)=#[.int .i64 a,.int .i64 b] from rfl,hr]
  exact After.same C h .int
 ·rename_i T U x y _ hats
  obtain ⟨u,u',rfl,hu,hu'⟩:=two hv
  obtain rfl:ats=#[T,U]:=Array.ext' (by simpa using hats)
  replace h:=tiK_ok H h
  obtain ⟨i,h,hT,-,d,hd,hk⟩:=h
  have go:notInt d=true→appO E T x y rows K→Nx E.P ((builtin .append #[T,U] ty cs [u,u'].toArray).run E.P w) (After w0 m0 m q K):=fun hn h=>by
   obtain ⟨r,w',g1,g2⟩:=appO_ok (E:=E) H C hu hu' hd hn h ty
   have hr:(builtin .append #[T,U] ty cs #[u,u']).run E.P w=.ok (.value r) w':=by
    simp only [builtin,Sem.run_bind,g1,Result.andThen_ok,Sem.run_pure]
   rw [show ([u,u'].toArray)=#[u,u'] from rfl,hr]
   exact g2
  split at h
  ·rename_i El hkind
   rw [hkind] at hk
   exact go (by rw [kind_slice hk];rfl) h
  ·rename_i hkind
   rw [hkind] at hk
   exact go (by rw [kind_str hk];rfl) h
  ·exact h.elim
 ·exact h.elim
theorem Nx.value {i:Sem Value} {u:Value} {G:Value→World→Prop} (h:i.run P w=.ok u w') (g:G u w'):Nx P ((do pure (Next.value (←i)):Sem Next).run P w) G:=by
 simp only [Sem.run_bind,h,Result.andThen_ok,Sem.run_pure]
 exact g
theorem map_arr {f:Operand→Value} (as:Array Operand):as.map f=(as.toList.map f).toArray:=Array.ext' (by rw [Array.toList_map])
theorem sliceO_ok (H:EnvOK E) (C:Cf w0 m0 rows R m q w) {L:VSlots} {a:Act} (S:SlotsR m q L a) {T:Nat} {v:V} {u:Value} {lo hi:Option Operand} (hv:VR m q v u) (h:sliceO E L T v lo hi rows K) :
  ∃ u' w',(Instr.sliceAt T u (lo.map a.eval) (hi.map a.eval) none).run E.P w=.ok u' w'∧After w0 m0 m q K u' w':=by
 unfold sliceO at h
 split at h
 ·rename_i s
  obtain ⟨i,h,hT,-,d,hd,hk⟩:=tiK_ok H h
  split at h
  case h_2=>exact h.elim
  rename_i hkind
  rw [hkind] at hk
  rw [kind_str hk] at hd
  cases hv with
  | str hs =>
   have fin : ∀ l h' : Nat, l ≤ h' → h' ≤ s.length → K (.str ((s.take h').drop l)) rows → (lo.map a.eval = none ∧ l = 0 ∨ ∃ k, lo.map a.eval = some (.int k l)) → (hi.map a.eval = none ∧ h' = s.length ∨ ∃ k, hi.map a.eval = some (.int k h')) →
       ∃ u' w',(Instr.sliceAt T (Gw.str s) (lo.map a.eval) (hi.map a.eval) none).run E.P w=.ok u' w'∧After w0 m0 m q K u' w':=fun l h' h1 h2 hK hl hh =>
    ⟨_,_,run_sliceS hd hl hh h1 h2,After.same C hK (.str (by simp;omega))⟩
   cases lo with
   | none =>
    simp only [boundK] at h
    cases hi with
    | none =>
     simp only [boundK] at h
     obtain ⟨l',h',e1,e2,g1,g2,h⟩:=h
     obtain rfl:l'=0:=by omega
     obtain rfl:h'=s.length:=by omega
     exact fin _ _ g1 g2 h (.inl ⟨rfl,rfl⟩) (.inl ⟨rfl,rfl⟩)
    | some o =>
     obtain ⟨kd,n,en,l',h',e1,e2,g1,g2,hK⟩:=boundK_ok (d:=s.length) S h
     subst e2
     obtain rfl:l'=0:=by omega
     exact fin _ _ g1 g2 hK (.inl ⟨rfl,rfl⟩) (.inr ⟨kd,by simp [en]⟩)
   | some o1 =>
    obtain ⟨kd1,n1,en1,h⟩:=boundK_ok S h
    cases hi with
    | none =>
     simp only [boundK] at h
     obtain ⟨l',h',e1,e2,g1,g2,h⟩:=h
     subst e1
     obtain rfl:h'=s.length:=by omega
     exact fin _ _ g1 g2 h (.inr ⟨kd1,by simp [en1]⟩) (.inl ⟨rfl,rfl⟩)
    | some o =>
     obtain ⟨kd,n,en,l',h',e1,e2,g1,g2,hK⟩:=boundK_ok S h
     subst e1 e2
     exact fin _ _ g1 g2 hK (.inr ⟨kd1,by simp [en1]⟩) (.inr ⟨kd,by simp [en]⟩)
 ·replace h:=tiK_ok H h
  obtain ⟨i,h,hT,-,d,hd,hk⟩:=h
  split at h
  case h_2=>exact h.elim
  rename_i El hkind
  rw [hkind] at hk
  rw [kind_slice hk] at hd
  replace h:=tiK_ok H h
  obtain ⟨e,h,hE,-⟩:=h
  cases hv
  have fin : K .nil rows → (lo.map a.eval = none ∨ ∃ k, lo.map a.eval = some (.int k ((0 : Nat) : Int))) → (hi.map a.eval = none ∨ ∃ k, hi.map a.eval = some (.int k ((0 : Nat) : Int))) →
      ∃ u' w',(Instr.sliceAt T (.slice none 0 0) (lo.map a.eval) (hi.map a.eval) none).run E.P w=.ok u' w'∧After w0 m0 m q K u' w':=fun hK hl hh =>
   ⟨_,_,run_slice (l:=0) (h:=0) hd hE (hl.imp (fun e=>⟨e,rfl⟩) id) (hh.imp (fun e=>⟨e,rfl⟩) id) (Nat.le_refl _) (Nat.le_refl _),After.same C hK (by exact .nil)⟩
  cases lo with
  | none =>
   simp only [boundK] at h
   cases hi with
   | none=>simp only [boundK] at h;exact fin h.2.2 (.inl rfl) (.inl rfl)
   | some o =>
    obtain ⟨kd,n,en,-,e1,h⟩:=boundK_ok (d:=0) S h
    exact fin h (.inl rfl) (.inr ⟨kd,by simp [en,e1]⟩)
  | some o1 =>
   obtain ⟨kd1,n1,en1,h⟩:=boundK_ok S h
   cases hi with
   | none=>simp only [boundK] at h;exact fin h.2.2 (.inr ⟨kd1,by simp [en1,h.1]⟩) (.inl rfl)
   | some o =>
    obtain ⟨kd,n,en,e0,e1,h⟩:=boundK_ok S h
    exact fin h (.inr ⟨kd1,by simp [en1,e0]⟩) (.inr ⟨kd,by simp [en,e1]⟩)
 ·
  rename_i x o
  split at h
  case h_2=>exact h.elim
  obtain ⟨i,h,hT,-,d,hd,hk⟩:=tiK_ok H h
  split at h
  case h_2=>exact h.elim
  rename_i n El hkind
  rw [hkind] at hk
  rw [kind_array hk] at hd
  obtain ⟨e,h,hE,-⟩:=tiK_ok H h
  split at h
  case h_2=>exact h.elim
  rename_i hsz
  have hsz:=Nat.eq_of_beq_eq_true hsz
  have fin : ∀ (lo' : Option Value) (a : Int), (lo' = none ∧ a = 0 ∨ ∃ k, lo' = some (.int k a)) → (∃ (α : Type) (enc : α → V) (l : List α) (a' : Nat), a = (a' : Int) ∧ a' ≤ n ∧ n ≤ MAXL ∧ l.length = n ∧ (∀ z, (enc z).cells = [enc z]) ∧ (x.cells.drop o).take n = l.map enc ∧ K (.sl enc (l.drop a')) rows) →
      ∃ u' w',(Instr.sliceAt T u lo' none none).run E.P w=.ok u' w'∧After w0 m0 m q K u' w':=by
   rintro lo' a' hlo ⟨α,enc,l,k,rfl,hk1,hk2,hl,hc,hx,hK⟩
   cases hv with
   | @elt _ _ _ b off arr Ty fz us h3 h5 h6 =>
    have hkn:((k:Int)≤(n:Int)):=by omega
    have hr:(Instr.sliceAt T (.pointer (some ⟨b,off+o,none⟩)) lo' none none).run E.P w=.ok (.slice (some (if n=k then ⟨b,off+o,none⟩ else ⟨b,off+o+k,none⟩)) (n-k) (n-k)) w:=by
     rcases hlo with ⟨rfl,h0⟩|⟨kd,rfl⟩
     ·obtain rfl:k=0:=by omega
      simp [Instr.sliceAt,Instr.sliceBounds,Instr.sureAddr,run_underlying hd,run_sizeOf hE,Addr.add]
     ·simp [Instr.sliceAt,Instr.sliceBounds,Instr.sliceBound,asIntOf,Instr.sureAddr,run_underlying hd,run_sizeOf hE,hkn,hsz,Addr.add,hk1]
      by_cases h0:n=k
      ·simp [h0]
      ·by_cases h1:k=0
       ·simp [h1]
       ·simp [h0,h1]
    have hdl:(l.drop k).length=n-k:=by rw [List.length_drop,hl]
    refine ⟨_,_,hr,After.same C hK ?_⟩
    by_cases hnk:n=k
    ·have e0:l.drop k=[]:=List.drop_eq_nil_of_le (by omega)
     rw [e0,show n-k=0 by omega]
     exact .sl0 (Nat.zero_le _) (fun h=>by cases h)
    ·rw [if_neg hnk,←hdl]
     have key:∀ i,i < (l.drop k).length→∃ z,(l.drop k)[i]?=some z∧x.cells[o+(k+i)]?=some (enc z):=fun i hi=>by
      have hi2:k+i < l.length:=by omega
      refine ⟨l[k+i],by rw [List.getElem?_drop,List.getElem?_eq_getElem hi2],?_⟩
      have e1:(l.map enc)[k+i]?=some (enc l[k+i]):=by rw [List.getElem?_map,List.getElem?_eq_getElem hi2];rfl
      rw [←hx,List.getElem?_take,if_pos (by omega),List.getElem?_drop] at e1
      exact e1
     refine .sl (k:=1) (off:=off+o+k) (fun i j=>us (o+(k+i))) (Nat.le_refl _) (by omega) h3 (fun i hi=>by rw [hc];rfl) (fun i hi j v hv=>?_) (fun i hi j v hv=>?_)
     ·obtain ⟨z,e1,e2⟩:=key i hi
      have e3:(l.drop k)[i]=z:=by rw [List.getElem?_eq_getElem hi] at e1;exact Option.some.inj e1
      rw [e3,hc] at hv
      have hj:j=0:=by
       rcases Nat.eq_zero_or_pos j with h|h
       ·exact h
       ·rw [List.getElem?_eq_none (by simp;omega)] at hv;cases hv
      subst hj
      have:=h5 _ _ e2
      rw [show off+o+k+i*1+0=off+(o+(k+i)) by omega]
      exact this
     ·obtain ⟨z,e1,e2⟩:=key i hi
      have e3:(l.drop k)[i]=z:=by rw [List.getElem?_eq_getElem hi] at e1;exact Option.some.inj e1
      rw [e3,hc] at hv
      have hj:j=0:=by
       rcases Nat.eq_zero_or_pos j with h|h
       ·exact h
       ·rw [List.getElem?_eq_none (by simp;omega)] at hv;cases hv
      subst hj
      obtain rfl:enc z=v:=by simpa using hv
      exact h6 _ _ e2
  cases lo with
  | none=>simp only [boundK] at h;exact fin none 0 (.inl ⟨rfl,rfl⟩) h
  | some o1 =>
   obtain ⟨kd1,n1,en1,h⟩:=boundK_ok S h
   simp only [Option.map_some,Option.map_none]
   exact fin _ n1 (.inr ⟨kd1,by simp [en1]⟩) h
 ·replace h:=tiK_ok H h
  obtain ⟨i,h,hT,-,d,hd,hk⟩:=h
  split at h
  case h_2=>exact h.elim
  rename_i El hkind
  rw [hkind] at hk
  rw [kind_slice hk] at hd
  replace h:=tiK_ok H h
  obtain ⟨e,h,hE,-⟩:=h
  split at h
  ·rename_i r q' els hot
   split at h
   case h_2=>exact h.elim
   rename_i hqe
   have hqe:=Nat.eq_of_beq_eq_true hqe
   subst hqe
   unfold ownTake at hot
   split at hot
   case h_2=>cases hot
   split at hot
   case h_2=>cases hot
   rename_i hrow
   cases hot
   obtain ⟨kd,n,en,b',rfl,g1,h⟩:=boundK_ok (d:=0) S h
   obtain ⟨hlt,h⟩:=setK_ok _ _ _ _ h
   have h:=pushK_ok _ _ _ _ h
   rw [Nat.zero_add] at h
   rw [nth_eq] at hrow
   obtain ⟨ob,cap,a1,a2,a3,a4,a5⟩:=C.rok.row _ _ hrow
   cases hv with
   | own hq =>
    rw [a1] at hq;cases hq
    have hr:=run_slice (P:=E.P) (w:=w) (oa:=row0 ob) (n:=els.length) (cap:=cap) (lo:=none) (hi:=some (.int kd b')) (l:=0) (h:=b') hd hE (.inl ⟨rfl,rfl⟩) (.inr ⟨kd,rfl⟩) (Nat.zero_le _) (by omega)
    simp only [Option.map_some,Option.map_none,en]
    have hres:(if cap=0 then row0 ob else (row0 ob).map (·.add (0*e.size)))=row0 ob:=by cases ob<;>simp [row0,Addr.add]
    rw [hres,Nat.sub_zero,Nat.sub_zero] at hr
    have h':K (.own rows.length) (rows.set r .dead++[.row e.size (els.take b')]):=by simpa using h
    have htl:(els.take b').length=b':=by simp;omega
    cases ob with
    | none =>
     have:=a4 rfl
     subst this
     have e0:els=[]:=List.length_eq_zero_iff.1 (by omega)
     subst e0
     simp only [List.length_nil] at g1
     obtain rfl:b'=0:=by omega
     have C':=C.kill hrow
     have hlen:(rows.set r Row.dead).length=rows.length:=List.length_set
     have C2:=C'.row0 e.size
     refine ⟨_,_,hr,_,_,_,_,_,h',by simpa using C2,Mem.Le.refl m,C'.le_add _,?_⟩
     rw [hlen]
     exact VR.own (add_self _ _ _)
    | some b =>
     obtain ⟨arr,T',fz,f1,f2,f3,f4⟩:=a5 b rfl
     have hput:R.put b (.cells arr T' fz)=R:=by
      funext k
      unfold Mem.put
      split
      ·rename_i e;subst e;exact f1.symm
      ·rfl
     have C3:=C.move (o':=.cells arr T' fz) (y:=.row e.size (els.take b')) (n':=b') (c':=cap) (k':=e.size) hrow rfl a1 (by rw [hput];exact C.sit) ⟨some b,cap,by rw [htl];exact add_self _ _ _,by omega,a3,(fun h=>by cases h),fun b2 hb2=>by
      cases hb2
      refine ⟨arr,T',fz,by rw [hput];exact f1,f2,fun i x hi=>?_,f4⟩
      rw [List.getElem?_take] at hi
      split at hi
      ·exact f3 i x hi
      ·cases hi⟩
     rw [hput] at C3
     exact ⟨_,_,hr,_,_,_,_,_,h',C3,Mem.Le.refl m,C.le_add _,VR.own (add_self _ _ _)⟩
  obtain ⟨v',rows',R',m',h,C',hm,hv'⟩:=fz1_ok C hv h
  split at h
  case h_2=>exact h.elim
  rename_i α enc l
  obtain ⟨hst,h⟩:=h
  obtain ⟨oa,cap,hu,hcap⟩:∃ oa cap,u=.slice oa l.length cap∧l.length≤cap:=by
   cases hv' with
   | sl0=>exact ⟨_,_,rfl,by simp⟩
   | sl us h1=>exact ⟨_,_,rfl,h1⟩
  subst hu
  have S':=S.up hm (Loc.Le.refl q)
  split at h
  ·obtain ⟨kd,n,en,a',rfl,g1,h⟩:=boundK_ok S' h
   have hr:=run_slice (P:=E.P) (w:=w) (oa:=oa) (n:=l.length) (cap:=cap) (lo:=some (.int kd a')) (hi:=none) (l:=a') (h:=l.length) hd hE (.inr ⟨kd,rfl⟩) (.inl ⟨rfl,rfl⟩) g1 hcap
   simp only [Option.map_some,Option.map_none,en]
   exact ⟨_,_,hr,_,_,_,_,_,h,C',hm,Loc.Le.refl q,(hv'.drop hst a' g1 hcap).up (Mem.Le.refl _) (noLoc_le q)⟩
  ·obtain ⟨kd,n,en,b',rfl,g1,h⟩:=boundK_ok S' h
   have hr:=run_slice (P:=E.P) (w:=w) (oa:=oa) (n:=l.length) (cap:=cap) (lo:=none) (hi:=some (.int kd b')) (l:=0) (h:=b') hd hE (.inl ⟨rfl,rfl⟩) (.inr ⟨kd,rfl⟩) (Nat.zero_le _) (by omega)
   simp only [Option.map_some,Option.map_none,en]
   refine ⟨_,_,hr,_,_,_,_,_,h,C',hm,Loc.Le.refl q,?_⟩
   have:=(hv'.take b' g1).up (Mem.Le.refl _) (noLoc_le q)
   cases oa<;>simpa [Addr.add] using this
  ·obtain ⟨kd,n,en,h⟩:=boundK_ok S' h
   obtain ⟨kd2,n2,en2,a',b',rfl,rfl,g1,g2,h⟩:=boundK_ok S' h
   have hr:=run_slice (P:=E.P) (w:=w) (oa:=oa) (n:=l.length) (cap:=cap) (lo:=some (.int kd a')) (hi:=some (.int kd2 b')) (l:=a') (h:=b') hd hE (.inr ⟨kd,rfl⟩) (.inr ⟨kd2,rfl⟩) g1 (by omega)
   simp only [Option.map_some,en,en2]
   refine ⟨_,_,hr,_,_,_,_,_,h,C',hm,Loc.Le.refl q,?_⟩
   have e1:(l.take b').length=b':=by simp;omega
   have t:=hv'.take b' g2
   have:=VR.drop (q:=noLoc) (l:=l.take b') (by rw [e1];exact t) hst a' (by omega) (by omega)
   rw [e1] at this
   exact this.up (Mem.Le.refl _) (noLoc_le q)
  ·exact h.elim
theorem xop_ok (H:EnvOK E) {call:CallT} (HC:CallOK E call) {dr:Bool} {o:Oper} {L:VSlots} {a:Act} (C:Cf w0 m0 rows R m q w) (S:SlotsR m q L a) (h:xop E call dr L rows o.op K) :
  Nx E.P ((execOp a.eval o).run E.P w) (After w0 m0 m q K):=by
 unfold xop at h
 split at h
 ·
  rename_i x ho
  obtain ⟨v,h,hv⟩:=evO_ok S h
  simp only [execOp,ho,Sem.run_pure]
  exact After.same C h hv
 ·
  rename_i x ho
  obtain ⟨v,h,hv⟩:=evO_ok S h
  simp only [execOp,ho,Sem.run_pure]
  exact After.same C h hv
 ·
  rename_i c x y ho
  obtain ⟨cv,h,hc⟩:=evO_ok S h
  have go:∀ t:Bool,a.eval c=.bool t→(match t with|true=>evO L x fun v=>K v rows|false=>evO L y fun v=>K v rows)→Nx E.P ((execOp a.eval o).run E.P w) (After w0 m0 m q K):=fun t ht h=>by
   simp only [execOp,ho,ht,asBool,Sem.run_bind,Sem.run_pure,Result.andThen_ok]
   cases t with
   | true=>obtain ⟨v,h,hv⟩:=evO_ok S h;exact After.same C h hv
   | false=>obtain ⟨v,h,hv⟩:=evO_ok S h;exact After.same C h hv
  split at h
  ·generalize a.eval c=u at hc go;cases hc;exact go true rfl h
  ·generalize a.eval c=u at hc go;cases hc;exact go false rfl h
  ·rename_i t
   generalize a.eval c=u at hc go;cases hc;exact go t rfl (h t rfl)
  ·exact h.elim
 ·
  rename_i T ho
  obtain ⟨i,h,hT,hz,-⟩:=tiK_ok H h
  obtain ⟨cs,h,hcs,h1⟩:=constL_flat (m:=m) (q:=q) _ _ h
  have hr:(execOp a.eval o).run E.P w=.ok (.value (.pointer (some ⟨w.heap.size,0,none⟩))) (w.alloc (.cells i.zero.cells T)):=by
   simp [execOp,ho,Instr.alloc,newVar,newRow,run_zero hT]
  rw [hr]
  split at h
  ·have h:=pushK_ok _ _ _ _ h
   rw [Nat.zero_add] at h
   have C2:=C.box (some T) T (fun T' e=>by cases e;rfl) hcs h1
   rw [Array.toArray_toList] at C2
   refine ⟨_,_,_,_,_,h,C2,Mem.Le.refl m,C.le_add _,?_⟩
   have:=VR.ptr (m:=m) (i:=0) (o:=0) (add_self q rows.length (some w.heap.size,1,1,cs.length))
   simpa using this
  ·have h:=pushK_ok _ _ _ _ h
   rw [Nat.zero_add] at h
   have C2:=C.box none T (fun T' e=>by cases e) hcs h1
   rw [Array.toArray_toList] at C2
   refine ⟨_,_,_,_,_,h,C2,Mem.Le.refl m,C.le_add _,?_⟩
   have:=VR.ptr (m:=m) (i:=0) (o:=0) (add_self q rows.length (some w.heap.size,1,1,cs.length))
   simpa using this
 ·
  rename_i T x ho
  obtain ⟨v,h,hv⟩:=evO_ok S h
  split at h
  case h_2=>exact h.elim
  rename_i hfl
  obtain ⟨us,hu,hus,h1⟩:=cells_ok hv hfl
  have h:=pushK_ok _ _ _ _ h
  rw [Nat.zero_add] at h
  have hr:(execOp a.eval o).run E.P w=.ok (.value (.pointer (some ⟨w.heap.size,0,none⟩))) (w.alloc (.cells us.toArray T)):=by
   simp [execOp,ho,Instr.box,newVar,newRow,hu]
  rw [hr]
  have C2:=C.box none T (fun T' e=>by cases e) hus h1
  refine ⟨_,_,_,_,_,h,C2,Mem.Le.refl m,C.le_add _,?_⟩
  have:=VR.ptr (m:=m) (i:=0) (o:=0) (add_self q rows.length (some w.heap.size,1,1,v.cells.length))
  simpa using this
 ·
  rename_i T ps ho
  replace h:=tiK_ok H h
  obtain ⟨i,h,hT,hz,d,hd,hk⟩:=h
  split at h
  case h_2=>exact h.elim
  rename_i fs hkind
  rw [hkind] at hk
  obtain ⟨v,u,h1,h2,h3⟩:=build_ok (w:=w) (ps:=ps) (k:=fun v=>K v rows) H S hT hd hk h
  simp only [execOp,ho]
  exact Nx.value h3 (After.same C h1 h2)
 ·
  rename_i T n ps ho
  replace h:=tiK_ok H h
  obtain ⟨i,h,hT,hz,d,hd,hk⟩:=h
  split at h
  case h_2=>exact h.elim
  rename_i El hkind
  rw [hkind] at hk
  rw [kind_slice hk] at hd
  replace h:=tiK_ok H h
  obtain ⟨e,h,hE,-⟩:=h
  split at h
  case h_2=>exact h.elim
  rename_i h1 h2 h3
  obtain ⟨u,w',g1,g2⟩:=buildSlice_ok (E:=E) H C S hd hE (Nat.eq_of_beq_eq_true h1) (by simpa [Nat.ble_eq] using h2) (by simpa [Nat.ble_eq] using h3) h
  simp only [execOp,ho]
  exact Nx.value g1 g2
 ·
  rename_i T n c ho
  replace h:=tiK_ok H h
  obtain ⟨i,h,hT,hz0,d,hd,hk⟩:=h
  split at h
  case h_2=>exact h.elim
  rename_i El hkind
  rw [hkind] at hk
  rw [kind_slice hk] at hd
  replace h:=tiK_ok H h
  obtain ⟨e,h,hE,hzs,-⟩:=h
  replace h:=evO_ok S h
  obtain ⟨nv,h,hnv⟩:=h
  replace h:=evO_ok S h
  obtain ⟨cv,h,hcv⟩:=h
  split at h
  case h_2=>exact h.elim
  rename_i a1 b1
  obtain ⟨rfl,h⟩:=h
  split at h
  case h_2=>exact h.elim
  rename_i hble
  have he1:1≤e.bytes:=by simpa [Nat.ble_eq] using hble
  replace h:=constK_ok (m:=m) (q:=q) h
  obtain ⟨z,h,hz⟩:=h
  split at h
  case h_2=>exact h.elim
  rename_i hzl hzp hzf
  have hzl:=Nat.eq_of_beq_eq_true hzl
  obtain ⟨c',rfl,hcb,h⟩:=h
  obtain ⟨xs,hxs,-,-⟩:=cells_ok hz hzf
  have hrow:=zero_row (c:=c') hz hxs hzl hzp hzf
  have hmul:c'*1≤c'*e.bytes:=Nat.mul_le_mul_left _ he1
  have hr:(Instr.makeSlice T (.int .i64 (c':Int)) (.int .i64 (c':Int))).run E.P w=.ok (.slice (some ⟨w.heap.size,0,none⟩) c' c') (w.alloc (.cells (Builtin.zeroCells e.zero.cells c') El)):=run_makeSlice hd hE hzs hcb he1
  simp only [execOp,ho]
  generalize a.eval n=un at hnv
  generalize a.eval c=uc at hcv
  cases hnv;cases hcv
  have hcM:(List.replicate c' z).length≤MAXL:=by simp only [List.length_replicate];unfold MAXL;omega
  split at h
  ·have h:=pushK_ok _ _ _ _ h
   rw [Nat.zero_add] at h
   have C2:=C.row (Bel.refl [] w) (els:=List.replicate c' z) (k:=e.size) (cap:=c') (arr:=Builtin.zeroCells e.zero.cells c') El (by simp [zeroCells_size,hzs]) (by simp) (by simpa using hcM) hrow
   refine Nx.value hr ⟨_,_,_,_,_,h,C2,Mem.Le.refl m,C.le_add _,?_⟩
   have:=VR.own (m:=m) (add_self q rows.length (some w.heap.size,(List.replicate c' z).length,c',e.size))
   simpa using this
  ·obtain ⟨α,enc,l,hle,h⟩:=h
   have hlen:c'=l.length:=by have:=hle.len;simpa using this
   have hbel:Bel [] w (w.alloc (.cells (Builtin.zeroCells e.zero.cells c') El)):=Bel.alloc [] w _
   have hgr:=C.sit.mem.le_grow (w.alloc (.cells (Builtin.zeroCells e.zero.cells c') El))
   have:=els_sl (q:=q) (cap:=c') hle (b:=w.heap.size) (arr:=Builtin.zeroCells e.zero.cells c') (T:=El) (fz:=(0,0)) (m:=grow m w (w.alloc (.cells (Builtin.zeroCells e.zero.cells c') El))) (by unfold grow;rw [if_neg (by omega)];exact Gw.heap_alloc_new w _) (hrow.up hgr) (by simp) (by simpa using hcM)
   rw [←hlen] at this
   exact Nx.value hr ⟨_,_,_,_,_,h,C.grow hbel,hgr,Loc.Le.refl q,this⟩
 ·
  rename_i T x ho
  obtain ⟨av,h,ha⟩:=evO_ok S h
  obtain ⟨v,u,p,h1,h2,h3,h4⟩:=loadO_ok H C ha h
  simp only [execOp,ho]
  refine Nx.value (u:=u) (w':=w) ?_ (After.same C h1 h4)
  rw [h2]
  simp only [Instr.loadAt,Instr.sureAddr,Sem.run_bind,Sem.run_pure,Result.andThen_ok,h3]
 ·
  rename_i T x y ho
  obtain ⟨av,h,ha⟩:=evO_ok S h
  obtain ⟨v,h,hv⟩:=evO_ok S h
  obtain ⟨p,w',rows',R',h1,h2,h3,h4⟩:=storeO_ok H C ha hv h
  have hr:(execOp a.eval o).run E.P w=.ok .skip w':=by
   simp only [execOp,ho,h1,Instr.storeAt,Instr.sureAddr,Sem.run_bind,Sem.run_pure,Result.andThen_ok,h2]
  rw [hr]
  exact ⟨_,_,_,_,_,h3,h4,Mem.Le.refl m,Loc.Le.refl q,.tup (us:=[]) rfl fun i v u h=>by simp at h⟩
 ·
  rename_i x ho
  obtain ⟨v,h,hv⟩:=evO_ok S h
  simp only [execOp,ho]
  split at h
  ·obtain ⟨b,off,hu,-⟩:=hv.addr
   rw [hu] at hv ⊢
   exact After.same C h hv
  ·obtain ⟨b,off,hu,-⟩:=hv.addrE
   rw [hu] at hv ⊢
   exact After.same C h hv
  ·generalize a.eval x=u at hv
   cases hv with
   | fn hl he=>exact After.same C h (.fn hl he)
  ·exact h.elim
 ·
  rename_i op T x y T2 ho
  split at h
  ·obtain ⟨av,h,ha⟩:=evO_ok S h
   obtain ⟨v,u,h1,h2,h3⟩:=nilO_ok (w:=w) (xo:=x) H ha h
   simp only [execOp,ho]
   exact Nx.value h3 (After.same C h1 h2)
  obtain ⟨av,h,ha⟩:=evO_ok S h
  obtain ⟨bv,h,hb⟩:=evO_ok S h
  obtain ⟨v,u,h1,h2,h3⟩:=binO_ok (w:=w) (xo:=x) (yo:=y) H ha hb h
  simp only [execOp,ho]
  exact Nx.value h3 (After.same C h1 h2)
 ·
  rename_i T x ho
  obtain ⟨v,h,hv⟩:=evO_ok S h
  have go:∀ t:Bool,a.eval x=.bool t→∀ v,K v rows→VR m q v (.bool (!t))→Nx E.P ((execOp a.eval o).run E.P w) (After w0 m0 m q K):=fun t ht v hk hv=>by
   have hr:(execOp a.eval o).run E.P w=.ok (.value (.bool (!t))) w:=by
    simp only [execOp,ho,ht,Op.unary,Sem.run_bind,Result.andThen_ok,Sem.run_pure]
   rw [hr]
   exact After.same C hk hv
  split at h
  ·generalize a.eval x=u at hv go;cases hv;exact go true rfl _ h .lit
  ·generalize a.eval x=u at hv go;cases hv;exact go false rfl _ h .lit
  ·rename_i t
   generalize a.eval x=u at hv go;cases hv;exact go t rfl _ h .bool
  ·exact h.elim
 ·
  rename_i Sx D x ho
  replace h:=tiK_ok H h
  obtain ⟨si,h,hST,-,ds,hds,hks⟩:=h
  replace h:=tiK_ok H h
  obtain ⟨di,h,hDT,-,dd,hdd,hkd⟩:=h
  replace h:=evO_ok S h
  obtain ⟨v,h,hv⟩:=h
  simp only [execOp,ho]
  split at h
  ·rename_i El hk1 hk2
   rw [hk1] at hks;rw [hk2] at hkd
   rw [kind_slice hks] at hds;rw [kind_str hkd] at hdd
   split at h
   ·exact h.elim
   rename_i hs
   obtain ⟨b,hn,he,h⟩:=h
   replace h:=tiK_ok H h
   obtain ⟨ei,h,hET,-,de,hde,hke⟩:=h
   split at h
   case h_2=>exact h.elim
   rename_i hkind
   rw [hkind] at hke
   rw [kind_int hke] at hde
   obtain ⟨oa,cap,hu,h1,h2,h3⟩:=C.slice_of hv he hs
   obtain ⟨new,Sr⟩:=C.src (P:=E.P) hv hn he
   rw [hu] at Sr ⊢
   have hr:=run_b2s' Sr (by simp) (fun e=>by simpa using h3 e)
   refine Nx.value (u:=Gw.str b) (w':=w) ?_ (After.same C h (.str (by simp at h1;omega)))
   simp only [convert,Sem.run_bind,run_underlying hds,run_underlying hdd,run_underlying hde,Result.andThen_ok,hr]
  ·rename_i El hk1 hk2
   rw [hk1] at hks;rw [hk2] at hkd
   rw [kind_str hks] at hds;rw [kind_slice hkd] at hdd
   split at h
   case h_2=>exact h.elim
   rename_i s
   obtain ⟨hl,h⟩:=h
   replace h:=tiK_ok H h
   obtain ⟨ei,h,hET,-,de,hde,hke⟩:=h
   split at h
   case h_2=>exact h.elim
   rename_i hkind
   rw [hkind] at hke
   rw [kind_int hke] at hde
   generalize a.eval x=ux at hv
   cases hv
   obtain ⟨u,w',g1,g2,g3,nc,arr,fz,rfl,e1,e2,e3,e4,e5,e6⟩:=run_s2b (P:=E.P) (w:=w) (S:=Sx) (D:=D) hl hds hdd hde
   split at h
   ·exact Nx.value g1 ⟨_,_,_,_,_,h,C.grow g2,C.sit.mem.le_grow w',Loc.Le.refl q,(g3 m).up (Mem.Le.refl _) (noLoc_le q)⟩
   ·rcases h with h|h
    ·exact Nx.value g1 ⟨_,_,_,_,_,h,C.grow g2,C.sit.mem.le_grow w',Loc.Le.refl q,(g3 m).up (Mem.Le.refl _) (noLoc_le q)⟩
    ·have h:=pushK_ok _ _ _ _ h
     rw [Nat.zero_add] at h
     have C2:=C.rowG g2 (els:=s.map byteV) (k:=1) (cap:=nc) e1 (noFk1 e2) e3 (by simpa using e4) e5 (e6 m)
     refine Nx.value g1 ⟨_,_,_,_,_,h,C2,Mem.Le.refl m,C.le_add _,?_⟩
     have:=VR.own (m:=m) (add_self q rows.length (some w.heap.size,(s.map byteV).length,nc,1))
     simpa using this
  ·rename_i El0 El hk1 hk2
   rw [hk1] at hks;rw [hk2] at hkd
   rw [kind_slice hks] at hds;rw [kind_slice hkd] at hdd
   split at h
   case h_2=>exact h.elim
   rename_i r hSD
   have hSD:=Nat.eq_of_beq_eq_true hSD
   subst hSD
   rw [hds] at hdd
   cases hdd
   split at h
   case h_2=>exact h.elim
   rename_i kk els hrow
   replace h:=tiK_ok H h
   obtain ⟨ei,h,hET,-,de,hde,hke⟩:=h
   split at h
   case h_2=>exact h.elim
   rename_i hkind
   rw [hkind] at hke
   rw [kind_int hke] at hde
   obtain ⟨b,rfl,hne,h⟩:=h
   obtain ⟨hlt,h⟩:=setK_ok _ _ _ _ h
   rw [nth_eq] at hrow
   obtain ⟨ob,cap,g1,g2,g3,g4,g5⟩:=C.rok.row r _ hrow
   generalize a.eval x=ux at hv
   cases hv with
   | own hq =>
    rw [g1] at hq;cases hq
    cases ob with
    | none =>
     have:=g4 rfl
     exact absurd (List.length_eq_zero_iff.1 (by simp at g2;omega)) hne
    | some blk =>
     obtain ⟨arr,T',fz,a1,a2,a3,a4⟩:=g5 blk rfl
     obtain ⟨fz',hfz'⟩:∃ fz',fz'=(if fz.1 == fz.2 then (arr.size,arr.size+1) else (min fz.1 arr.size,max fz.2 (arr.size+1))):=⟨_,rfl⟩
     have hblk:=(C.sit.own _ _ a1).2.1
     have hh:∀ k,(w.freeze ⟨blk,arr.size,none⟩ 1).heap[k]?=if k=blk then some (.cells arr T' fz') else w.heap[k]?:=fun k=>by
      simp only [World.freeze,Nat.one_ne_zero,if_false,Array.getElem?_modify]
      by_cases e:blk=k
      ·subst e;simp [hblk,hfz']
      ·rw [if_neg e,if_neg (fun h=>e h.symm)]
     have hbel:Bel [blk] w (w.freeze ⟨blk,arr.size,none⟩ 1):=⟨rfl,rfl,rfl,by simp [World.freeze],fun k hk hx=>by rw [hh k,if_neg (by simpa using hx)]⟩
     have S1:=C.sit.write a1 hbel (by rw [hh,if_pos rfl])
     obtain ⟨S2,hm⟩:=S1.freeze (b:=blk) (o:=.cells arr T' fz') (by simp [Mem.put])
     have hsh:(shape blk).run E.P w=.ok (some (T',arr.size)) w:=by
      simp only [run_shape,World.shape?,hblk]
     refine Nx.value (u:=.slice (row0 (some blk)) (b.map byteV).length cap) (w':=w.freeze ⟨blk,arr.size,none⟩ 1) ?_ ⟨_,_,_,_,q,h,C.set hrow S2 hm (fun h=>by cases h) (fun b' ⟨r',y',f1,f2,f3,f4⟩=>?_) ⟨some blk,cap,kk,by simpa using g1,?_,?_⟩,hm,Loc.Le.refl q,?_⟩
     ·simp only [convert,row0,Option.map_some,Sem.run_bind,run_underlying hds,run_underlying hde,Result.andThen_ok,beq_self_eq_true,markStringish,hsh,Sem.run_pure]
      rfl
     ·have hbb:b'≠blk:=fun e=>by subst e;exact f1 (C.rok.apart r' r y' _ b' f2 hrow f3 rfl f4 ⟨_,_,_,g1⟩)
      simp [Mem.del,Mem.put,hbb]
     ·have:=els_sl (m:=m.put blk (.cells arr T' fz')) (q:=noLoc) (LeL.refl (b.map byteV)) (b:=blk) (arr:=arr) (T:=T') (fz:=fz') (by simp [Mem.put]) (a3.up hm) g2 g3
      exact this
     ·intro i hi
      have:=(a3 i (byteV b[i]) (by simp [hi])).1
      exact this
     ·have:=els_sl (m:=m.put blk (.cells arr T' fz')) (q:=q) (LeL.refl (b.map byteV)) (b:=blk) (arr:=arr) (T:=T') (fz:=fz') (by simp [Mem.put]) (a3.up hm) g2 g3
      simpa using this
  ·rename_i ka kb hk1 hk2
   rw [hk1] at hks;rw [hk2] at hkd
   rw [kind_int hks] at hds;rw [kind_int hkd] at hdd
   split at h
   case h_2=>exact h.elim
   rename_i kd n
   obtain ⟨rfl,hw,h⟩:=h
   generalize a.eval x=ux at hv
   cases hv
   refine Nx.value (u:=.int kd n) (w':=w) ?_ (After.same C h .int)
   simp only [convert,Sem.run_bind,run_underlying hds,run_underlying hdd,Result.andThen_ok,Conv.intToInt,hw,Sem.run_pure]
  ·exact h.elim
 ·
  rename_i f first caps ho
  split at h
  case h_2=>exact h.elim
  rename_i hfirst
  obtain ⟨vs,h,hvs⟩:=evL_ok S _ _ h
  have e:first=#[]:=Array.ext' hfirst
  subst e
  simp only [execOp,ho]
  refine Nx.value (i:=Instr.makeFunc _ _ _) rfl (After.same C h ?_)
  have:=VR.fn (f:=f) hvs.len hvs.el
  rw [map_arr caps]
  simpa using this
 ·
  rename_i T x lo hi ho
  obtain ⟨v,h,hv⟩:=evO_ok S h
  obtain ⟨u',w',g1,g2⟩:=sliceO_ok H C S hv h
  simp only [execOp,ho]
  exact Nx.value g1 g2
 ·
  rename_i T x f ho
  replace h:=tiK_ok H h
  obtain ⟨i,h,hT,hz,d,hd,hk⟩:=h
  split at h
  case h_2=>exact h.elim
  rename_i fs hkind
  rw [hkind] at hk
  obtain ⟨fields,rfl,hf⟩:=kind_struct hk
  split at h
  case h_2=>exact h.elim
  rename_i FT off hfo
  rw [nth_eq,←hf] at hfo
  replace h:=tiK_ok H h
  obtain ⟨fi,h,hFT,-⟩:=h
  split at h
  ·exact h.elim
  rename_i hs
  have hs:fi.size≠0:=fun e=>by rw [e] at hs;cases hs
  obtain ⟨v,h,hv⟩:=evO_ok S h
  simp only [execOp,ho]
  split at h
  ·obtain ⟨b,base,hu,hp⟩:=hv.addr
   rw [hu]
   refine Nx.value (run_fieldAt hd hfo hFT hs) (After.same C h ?_)
   rw [Nat.add_assoc];exact hp _
  ·obtain ⟨b,base,hu,hp⟩:=hv.addrE
   rw [hu]
   refine Nx.value (run_fieldAt hd hfo hFT hs) (After.same C h ?_)
   rw [Nat.add_assoc];exact hp _
  ·exact h.elim
 ·
  rename_i T x f ho
  replace h:=tiK_ok H h
  obtain ⟨i,h,hT,hz,d,hd,hk⟩:=h
  split at h
  case h_2=>exact h.elim
  rename_i fs hkind
  rw [hkind] at hk
  obtain ⟨fields,rfl,hf⟩:=kind_struct hk
  split at h
  case h_2=>exact h.elim
  rename_i FT off hfo
  rw [nth_eq,←hf] at hfo
  replace h:=tiK_ok H h
  obtain ⟨fi,h,hFT,-⟩:=h
  obtain ⟨v,h,hv⟩:=evO_ok S h
  simp only [execOp,ho]
  split at h
  case h_2=>exact h.elim
  rename_i cs
  generalize a.eval x=u at hv
  cases hv with
  | @agg _ _ us hl he =>
   obtain ⟨v,u,g1,g2,g3⟩:=run_field (P:=E.P) (w:=w) hd hfo hFT ⟨hl,he⟩ h
   exact Nx.value g3 (After.same C g1 g2)
 ·
  rename_i T x j ho
  replace h:=tiK_ok H h
  obtain ⟨i,h,hT,hz,d,hd,hk⟩:=h
  split at h
  case h_2=>exact h.elim
  rename_i El hkind
  rw [hkind] at hk
  rw [kind_slice hk] at hd
  replace h:=tiK_ok H h
  obtain ⟨e,h,hE,-⟩:=h
  obtain ⟨v,h,hv⟩:=evO_ok S h
  obtain ⟨jv,h,hj⟩:=evO_ok S h
  split at h
  case h_2=>exact h.elim
  rename_i kd n
  obtain ⟨v',u',g1,g2,g3⟩:=idxO_ok (P:=E.P) (kd:=kd) C hv hd hE h
  simp only [execOp,ho]
  generalize a.eval j=uj at hj
  cases hj
  exact Nx.value g3 (After.same C g1 g2)
 ·
  rename_i T x j ho
  obtain ⟨v,h,hv⟩:=evO_ok S h
  obtain ⟨jv,h,hj⟩:=evO_ok S h
  split at h
  case h_3=>exact h.elim
  ·rename_i s kd n _
   obtain ⟨i,hi,hlt,h⟩:=h
   replace h:=tiK_ok H h
   obtain ⟨ti,h,hT,-,d,hd,hk⟩:=h
   split at h
   case h_2=>exact h.elim
   rename_i hkind
   rw [hkind] at hk
   rw [kind_str hk] at hd
   simp only [execOp,ho]
   generalize a.eval x=ux at hv
   generalize a.eval j=uj at hj
   cases hv;cases hj
   subst hi
   refine Nx.value (u:=.int .u8 (s[i].toNat:Int)) (w':=w) ?_ (After.same C h .int)
   have e:(⟨s.toArray⟩:ByteArray)[i]?=some s[i]:=by
    rw [getElem?_pos _ _ (by simpa [ByteArray.size] using hlt)]
    rfl
   simp [Instr.index,asIntOf,run_underlying hd,Gw.str,e]
  ·rename_i cs kd n _
   replace h:=tiK_ok H h
   obtain ⟨ti,h,hT,-,d,hd,hk⟩:=h
   split at h
   case h_2=>exact h.elim
   rename_i len El hkind
   rw [hkind] at hk
   rw [kind_array hk] at hd
   replace h:=tiK_ok H h
   obtain ⟨e,h,hE,-⟩:=h
   split at h
   case h_2=>exact h.elim
   rename_i hag hsz
   have hsz:=Nat.eq_of_beq_eq_true hsz
   obtain ⟨i,rfl,hlt,v,hv1,h⟩:=h
   simp only [execOp,ho]
   generalize a.eval x=ux at hv
   generalize a.eval j=uj at hj
   cases hj
   cases hv with
   | @agg _ _ us hl he =>
    obtain ⟨u,g1,g2⟩:=(VRL.mk hl he:VRL m q cs us).getElem hv1
    refine Nx.value (u:=u) (w':=w) ?_ (After.same C h g2)
    have hp:(part El us.toArray (i*e.size)).run E.P w=.ok u w:=by
     obtain ⟨i',u',hi',hu',hiz,hik,hie,hg⟩:=tyOf_parts hE
     rw [hag] at hg
     have hag2:∀ w,(isAgg El).run E.P w=.ok false w:=fun w=>by
      cases u'<;>first|(simp [isAggD] at hg;done)|simp [isAgg,run_underlying hu']
     simp only [part,Sem.run_bind,hag2,Result.andThen_ok,Bool.false_eq_true,if_false]
     rw [hsz,Nat.mul_one]
     simp [g1]
    have hlt':((i:Int) < (len:Int)):=by omega
    simp [Instr.index,asIntOf,run_underlying hd,run_sizeOf hE,hlt',hp]
    intro h;omega
 ·
  rename_i x i ho
  obtain ⟨v,h,hv⟩:=evO_ok S h
  split at h
  case h_2=>exact h.elim
  rename_i vs
  split at h
  case h_2=>exact h.elim
  rename_i u hu
  rw [nth_eq] at hu
  simp only [execOp,ho]
  generalize a.eval x=ux at hv
  cases hv with
  | @tup _ _ us hl he =>
   obtain ⟨u',g1,g2⟩:=(VRL.mk hl he:VRL m q vs us).getElem hu
   refine Nx.value (i:=Instr.extract _ _) (u:=u') (w':=w) ?_ (After.same C h g2)
   simp [Instr.extract,g1]
 ·
  rename_i T ho
  replace h:=tiK_ok H h
  obtain ⟨i,h,hT,hz,d,hd,hk⟩:=h
  split at h
  case h_2=>exact h.elim
  rename_i Kt El hkind
  split at h
  case h_2=>exact h.elim
  rename_i kk hkk
  obtain ⟨α,enc,h⟩:=h
  have h:=pushK_ok _ _ _ _ h
  rw [Nat.zero_add] at h
  simp only [execOp,ho]
  have C2:Cf w0 m0 (rows++[.mp Kt El kk enc []]) (R.put w.heap.size (.map #[] 0)) m (q.add rows.length (some w.heap.size,0,0,0)) (w.alloc (.map #[] 0)):=by
   refine C.new (.mp Kt El kk enc []) (C.sit.new _) (Mem.Le.refl m) (fun b hb=>if_neg (by omega)) (fun b hb=>by cases hb;exact Nat.le_refl _) ?_
   exact ⟨w.heap.size,#[],0,add_self _ _ _,by simp [Mem.put],rfl,fun i k a h=>by simp at h⟩
  refine Nx.value (i:=Instr.makeMap _ _) (run_makeMap T w) ⟨_,_,_,_,_,h,C2,Mem.Le.refl m,C.le_add _,?_⟩
  exact VR.map (add_self q rows.length (some w.heap.size,0,0,0))
 ·
  rename_i T mo ko vo ho
  obtain ⟨mv,h,hm⟩:=evO_ok S h
  obtain ⟨kv,h,hk⟩:=evO_ok S h
  obtain ⟨v,h,hv⟩:=evO_ok S h
  obtain ⟨w',h1,rows',R',h3,h4⟩:=mapPutO_ok H C hm hk hv h
  have hr:(execOp a.eval o).run E.P w=.ok .skip w':=by
   simp only [execOp,ho,h1,Sem.run_bind,Sem.run_pure,Result.andThen_ok]
  rw [hr]
  exact ⟨_,_,_,_,_,h3,h4,Mem.Le.refl m,Loc.Le.refl q,.tup (us:=[]) rfl fun i v u h=>by simp at h⟩
 ·
  rename_i T mo ko vo ho
  obtain ⟨mv,h,hm⟩:=evO_ok S h
  obtain ⟨kv,h,hk⟩:=evO_ok S h
  obtain ⟨v,h,hv⟩:=evO_ok S h
  obtain ⟨w',h1,rows',R',h3,h4⟩:=mapPutO_ok H C hm hk hv h
  have hr:(execOp a.eval o).run E.P w=.ok .skip w':=by
   simp only [execOp,ho,h1,Sem.run_bind,Sem.run_pure,Result.andThen_ok]
  rw [hr]
  exact ⟨_,_,_,_,_,h3,h4,Mem.Le.refl m,Loc.Le.refl q,.tup (us:=[]) rfl fun i v u h=>by simp at h⟩
 ·
  rename_i T mo ko ho
  obtain ⟨mv,h,hm⟩:=evO_ok S h
  obtain ⟨kv,h,hk⟩:=evO_ok S h
  obtain ⟨v,u,h1,h2,h3⟩:=mapGetO_ok H C hm hk h
  simp only [execOp,ho]
  exact Nx.value h1 (After.same C h2 h3)
 ·
  rename_i c ho
  obtain ⟨vs,h,hvs⟩:=evL_ok S _ _ h
  split at h
  ·rename_i b hc
   have:=builtO_ok (E:=E) (ty:=o.type) (cs:=c.args.map fun|.const _=>true|_=>false) H C hvs h
   simp only [execOp,ho,resolve,hc,Sem.run_bind,Sem.run_pure,Result.andThen_ok,invoke]
   rw [map_arr c.args]
   exact this
  ·rename_i f hc
   obtain ⟨fv,h,hf⟩:=evO_ok S h
   split at h
   case h_2=>exact h.elim
   rename_i g caps
   have h:=appK_ok _ _ _ h
   generalize hfe:a.eval f=uf at hf
   cases hf with
   | @fn _ _ _ us hl he =>
    obtain ⟨g1,g2⟩:=HC w0 m0 g _ rows K R m q w _ C (hvs.app ⟨hl,he⟩) h
    have hr:(execOp a.eval o).run E.P w=.ok (.enter g (c.args.toList.map a.eval++us).toArray) w:=by
     simp only [execOp,ho,resolve,hc,hfe,Deferred.ofValue,Sem.run_bind,Sem.run_pure,Result.andThen_ok,invoke]
     rw [map_arr c.args,show (#[]++(c.args.toList.map a.eval).toArray++us.toArray)=(c.args.toList.map a.eval++us).toArray by simp]
     exact run_callFunc g1 _ _
    rw [hr]
    exact g2
  ·exact h.elim
 ·exact h.elim
end
end Gv
end PartV11
