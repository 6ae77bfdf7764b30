/- A calculus of what functions come to, part e: what is said holds in every world; conditions stand in each theorem. -/
import Derived.HandedShaped
import Derived.LaidMore
import Derived.Laws.Externs
import Derived.Laws.IdiomCopy
import Derived.Lib.AppendStr
import Derived.Lib.AppendZerosOnto
import Derived.Lib.Builder
import Derived.Lib.ItoaNum
import Derived.Lib.LaidTab
import Derived.Lib.Overlaps
import Derived.Lib.UnsafeStr
import Derived.OwnWalk
import Derived.Shelf.RegionOpenPlain
import Derived.Shelf.Vars
import Derived.Stop.LaidErr
import Derived.Test.YtffljdmmambdjabGreatDoorVc
import Derived.Test.YtffljdmmambdjabGreatDoorVd
import Derived.WalkKit
set_option linter.unusedVariables false
set_option linter.unusedSimpArgs false
set_option linter.unusedSectionVars false
section PartBld
namespace Gv
open Go Go.RowKit Gw Gp
variable [Glob]
section
variable {w0 : Start} {w w' : World} {m0 R m : Mem} {q : Loc} {rows : Rows} {P : Program}
end
theorem wpl_append {P : Program} {w : World} {ops : Array Oper} {rest : List Oper} {o : Oper} {a : Act} {Q : Exit → Act → World → Prop} (hgd : o.guard = none) (sl x : Operand) (t u : TypeId)
    (ho : o.op = .call { callee:=.builtin .append,args:=#[sl,x],argTypes:=#[t,u] }) {v v' s : Value} {w' : World} (hs : a.eval sl = v) (hx : a.eval x = s)
    (hr : (Builtin.append_ #[t,u] o.type #[v,s]).run P w = .ok v' w') (h : wpList P ops Q rest (a.put o.dst v') w') : wpList P ops Q (o :: rest) a w:=by
  refine wpList_plain hgd fun K hK=>?_
  unfold Oper.wp execOp
  simp only [ho,resolve,invoke,builtin,Sem.run_bind,Sem.run_pure,Result.andThen_ok,List.map_toArray,List.map_cons,List.map_nil,hs,hx,hr]
  exact hK _ _ h
end Gv
end PartBld
section PartIns
namespace Gv
open Go Go.RowKit Gw Gp
variable [Glob]
section
variable {w : World} {m : Mem} {P : Program}
theorem run_copy_in {T U E k e b o dLen dCap sLen n : Nat} {z : Value} {g : Bool} {sv : Value} {new : List Value} {arr : Array Value} {E' : TypeId} {fz : Nat × Nat} (hT : P.underlying T = some (.slice E)) (hE : tyOf P E = some (z, k, e, g))
    (hlen : (Builtin.lenOf sv).run P w = .ok sLen w) (hn : Nat.min sLen dLen = n) (hnew : (Builtin.firstCells k n sv).run P w = .ok new.toArray w) (h1 : ∀ u ∈ new,u.oneCell' = true) (hb : w.heap[b]? = some (.cells arr E' fz)) (hz : noFz arr.size fz) (hs : o + new.length ≤ arr.size) (typ : TypeId) :
    ∃ w',(Builtin.copy_ #[T,U] typ #[.slice (some ⟨b,o,none⟩) dLen dCap,sv]).run P w = .ok (goInt n) w' ∧ Bel [b] w w' ∧ w'.heap[b]? = some (.cells (putL arr o new) E' fz):=by
  obtain ⟨i,u,hi,hu,hiz,hik,hie,hg⟩:=tyOf_parts hE
  obtain ⟨w',hr,hbel,hh⟩:=run_storeCells (P:=P) new w o 0 arr hb hz (by simpa using hs) h1
  refine ⟨w',?_,hbel,by simpa using hh⟩
  simp only [Builtin.copy_]
  simp only [show (#[T,U] : Array TypeId)[0]? = some T from rfl,show (#[Value.slice (some ⟨b,o,none⟩) dLen dCap,sv] : Array Value)[0]? = some (Value.slice (some ⟨b,o,none⟩) dLen dCap) from rfl,show (#[Value.slice (some ⟨b,o,none⟩) dLen dCap,sv] : Array Value)[1]? = some sv from rfl]
  simp only [Sem.run_bind,run_underlying hT,Result.andThen_ok,run_sizeOf hE,Sem.run_pure,hlen,hn,hnew,hr]
theorem wpl_copy {P : Program} {w : World} {ops : Array Oper} {rest : List Oper} {o : Oper} {a : Act} {Q : Exit → Act → World → Prop} (hgd : o.guard = none) (d s : Operand) (t u : TypeId)
    (ho : o.op = .call { callee:=.builtin .copy,args:=#[d,s],argTypes:=#[t,u] }) {v v' x : Value} {w' : World} (hd : a.eval d = v) (hs : a.eval s = x)
    (hr : (Builtin.copy_ #[t,u] o.type #[v,x]).run P w = .ok v' w') (h : wpList P ops Q rest (a.put o.dst v') w') : wpList P ops Q (o :: rest) a w:=by
  refine wpList_plain hgd fun K hK=>?_
  unfold Oper.wp execOp
  simp only [ho,resolve,invoke,builtin,Sem.run_bind,Sem.run_pure,Result.andThen_ok,List.map_toArray,List.map_cons,List.map_nil,hd,hs,hr]
  exact hK _ _ h
theorem reg_copy {P : Program} {ops : Array Oper} {o : Oper} {a : Act} {w : World} {K : Act → World → Prop} {Q : Exit → Act → World → Prop} {E : Prop} (hgd : o.guard = none) (d s : Operand) (t u : TypeId)
    (ho : o.op = .call { callee:=.builtin .copy,args:=#[d,s],argTypes:=#[t,u] }) {v v' x : Value} {w' : World} (hd : a.eval d = v) (hs : a.eval s = x)
    (hr : (Builtin.copy_ #[t,u] o.type #[v,x]).run P w = .ok v' w') (h : K (a.put o.dst v') w') : if Region.wanted o (yielded ops a.tmps) = true then Oper.wp P o a w K Q else E:=by
  have hw : Region.wanted o (yielded ops a.tmps) = true:=by simp [Region.wanted,hgd]
  rw [if_pos hw]
  unfold Oper.wp execOp
  simp only [ho,resolve,invoke,builtin,Sem.run_bind,Sem.run_pure,Result.andThen_ok,List.map_toArray,List.map_cons,List.map_nil,hd,hs,hr]
  exact h
theorem setK_mk : ∀ (l : Rows) (i : Nat) (y : Row) (k : Rows → Prop),i < l.length → k (l.set i y) → setK l i y k
  | x :: r,0,y,k,_,h=>by simpa [setK] using h
  | x :: r,n + 1,y,k,hi,h=>setK_mk r n y _ (by simpa using hi) (by simpa using h)
  | [],n,y,k,hi,_=>absurd hi (Nat.not_lt_zero _)
theorem numK_mk {n : Nat} {k : Nat → Prop} (h : k n) : numK n k:=by unfold numK; split <;> exact h
theorem pushK_mk : ∀ (l : Rows) (n : Nat) (y : Row) (k : Nat → Rows → Prop),k (n + l.length) (l ++ [y]) → pushK n l y k
  | [],n,y,k,h=>numK_mk (k:=fun n=>k n [y]) h
  | x :: r,n,y,k,h=>pushK_mk r (n + 1) y _ (by simpa [Nat.add_assoc,Nat.add_comm 1] using h)
theorem ElsR.ins {k i : Nat} {els : List V} {x : V} {arr xarr A : Array Value} (he : ElsR m k els arr) (hx : ElsR m k [x] xarr) (hi : i ≤ els.length)
    (h1 : ∀ j,j < i * k → A[j]? = arr[j]?) (h2 : ∀ j,j < k → A[i * k + j]? = xarr[j]?) (h3 : ∀ j,i * k ≤ j → j < els.length * k → A[j + k]? = arr[j]?) : ElsR m k (els.take i ++ x :: els.drop i) A:=by
  intro t y hy
  have hti : (els.take i).length = i:=by rw [List.length_take]; omega
  rcases Nat.lt_trichotomy t i with h | h | h
  · rw [List.getElem?_append_left (by omega),List.getElem?_take,if_pos h] at hy
    obtain ⟨g1,g2⟩:=he t y hy
    refine ⟨g1,fun j v hj=>?_⟩
    obtain ⟨u,g3,g4⟩:=g2 j v hj
    have hjk : j < k:=by rw [← g1]; exact (List.getElem?_eq_some_iff.1 hj).1
    exact ⟨u,by rw [h1 _ (index_lt h hjk)]; exact g3,g4⟩
  · subst h
    rw [List.getElem?_append_right (by omega),hti,Nat.sub_self] at hy
    have hy : x = y:=by simpa using hy
    subst hy
    obtain ⟨g1,g2⟩:=hx 0 x rfl
    refine ⟨g1,fun j v hj=>?_⟩
    obtain ⟨u,g3,g4⟩:=g2 j v hj
    have hjk : j < k:=by rw [← g1]; exact (List.getElem?_eq_some_iff.1 hj).1
    exact ⟨u,by rw [h2 _ hjk]; simpa using g3,g4⟩
  · rw [List.getElem?_append_right (by omega),hti,show t - i = (t - 1 - i) + 1 by omega,List.getElem?_cons_succ,List.getElem?_drop,show i + (t - 1 - i) = t - 1 by omega] at hy
    obtain ⟨g1,g2⟩:=he (t - 1) y hy
    have hlt:=(List.getElem?_eq_some_iff.1 hy).1
    refine ⟨g1,fun j v hj=>?_⟩
    obtain ⟨u,g3,g4⟩:=g2 j v hj
    have hjk : j < k:=by rw [← g1]; exact (List.getElem?_eq_some_iff.1 hj).1
    refine ⟨u,?_,g4⟩
    have e : t * k + j = (t - 1) * k + j + k:=by
      have : t * k = (t - 1 + 1) * k:=by congr 1; omega
      rw [this,Nat.add_mul]; omega
    have hge : i * k ≤ (t - 1) * k:=Nat.mul_le_mul_right _ (by omega)
    rw [e,h3 _ (by omega) (index_lt hlt hjk)]
    exact g3
theorem src_from {b i k cap l : Nat} {arr : Array Value} {T : TypeId} {fz : Nat × Nat} {els : List V} (hb : w.heap[b]? = some (.cells arr T fz)) (he : ElsR m k els arr) (hi : i ≤ els.length) :
    ∃ new : List Value,new.length = (els.length - i) * k ∧ (∀ w' : World,w'.heap = w.heap → (Builtin.firstCells k (els.length - i) (.slice (some ⟨b,i * k,none⟩) l cap)).run P w' = .ok new.toArray w') ∧ (∀ x ∈ new,x.oneCell' = true) ∧ ∀ j,j < (els.length - i) * k → new[j]? = arr[i * k + j]?:=by
  have S:=src_block (P:=P) (m:=m) (w:=w) (b:=b) (off:=i * k) (k:=k) (cap:=cap) (ys:=els.drop i) hb (fun t x hx=>by
    rw [List.getElem?_drop] at hx
    obtain ⟨g1,g2⟩:=he (i + t) x hx
    refine ⟨g1,fun j v hj=>?_⟩
    obtain ⟨u,g3,g4⟩:=g2 j v hj
    exact ⟨u,by rw [← g3,Nat.add_mul],g4⟩)
  have hl : (els.drop i).length = els.length - i:=List.length_drop
  refine ⟨_,by rw [S.size,hl],fun w' h=>?_,S.one,fun j hj=>?_⟩
  · have:=S.run w' h
    rw [hl] at this ⊢
    exact this
  · rw [hl,List.getElem?_map,List.getElem?_range hj]
    obtain ⟨h1,h2,h3⟩:=index_split hj
    have e1 : els[i + j / k]? = some (els[i + j / k]'(by omega)):=List.getElem?_eq_getElem (by omega)
    obtain ⟨g1,g2⟩:=he _ _ e1
    obtain ⟨u,g3,g4⟩:=g2 (j % k) _ (List.getElem?_eq_getElem (by omega))
    have e2 : (i + j / k) * k + j % k = i * k + j:=by rw [Nat.add_mul]; omega
    rw [e2] at g3
    simp [g3]
end
end Gv
end PartIns
section PartDoor
namespace Gv
open Go Go.Proofs Go.ChangeShapes
abbrev worldGlob (W : World) : Glob:=⟨all W⟩
theorem worldGlob_le (W : World) : (worldGlob W).mem.Le (all W):=fun b o h=>h
theorem all_cell {W w : World} (h : Gw.Sub (all W) w) {a : Addr} {v : Value} (e : W.cell? a = some v) : w.cell? a = some v:=by
  unfold World.cell? at e ⊢
  split at e
  · rename_i c x y hb
    rw [h _ _ hb]
    exact e
  · cases e
theorem all_int {P : Program} {W : World} {g : Nat} {t : TypeId} {zero : Array Value} {k : IntKind} (h : W.ShapedOpen P) (hg : g < P.globals.size) (h0 : ((begin P (fun _ _ => 0) default).world.heap[g]?).bind Obj.row? = some (zero, t)) (hz : zero.size = 1)
    (hb : P.buildable t = true) (hc : P.cellTypes P.depth t = some [t]) (hu : P.underlying t = some (.int k)) : ∀ w,Gw.Sub (all W) w → ∃ n,w.cell? ⟨g,0,none⟩ = some (.int k n):=fun w hw=>by
  obtain ⟨n,hn⟩:=cell_of_shapedOpen_int h hg h0 hz hb hc hu
  exact ⟨n,all_cell hw hn⟩
theorem all_var {P : Program} {W w : World} (h : Gw.Sub (all W) w) {n : String} {cs : Array Value} (e : W.var? P n = some cs) : w.var? P n = some cs:=by
  unfold World.var? at e ⊢
  cases hg : P.globalNamed n with
  | none=>rw [hg] at e; cases e
  | some g =>
    rw [hg] at e
    simp only [Option.bind_some] at e ⊢
    cases hb : W.heap[g]? with
    | none=>rw [hb] at e; cases e
    | some o=>rw [hb] at e; rw [h g o hb]; exact e
theorem all_tab {P : Program} {W : World} {n : String} {k : IntKind} {zs : List Int} (h : Lib.TabIs P W n k zs) : ∀ w,Gw.Sub (all W) w → Lib.TabIs P w n k zs:=fun w hw=>all_var hw h
theorem returns_both {H : Type} {enc : TypeId × Value → H} {a : Assume} {C : Checked} {os : Os} {f : FuncId} {fn : Func} {s : ChangeSpec} {conds : List PathCond} {apart fresh handsOn again : Bool} {X : World → Array Value → Prop}
    (hX : ∀ (w w' : World) (args : Array Value),w.heap = w'.heap → X w args → X w' args)
    (own : ownKnob C.prog.godebug = none) (started : os.Started) (noInit : C.prog.inits.idxOf? f = none) (hfn : C.prog.funcs[f]? = some fn)
    (witness : ∃ (w : World) (tape : Tape) (i : Input),w.os = os ∧ (w.forCall tape i).Shaped C.prog ∧ i.vars = [] ∧ Input.okWide C.prog (w.forCall tape i) .any w.heap.size f i ∧
      ((s.pre enc C.prog fn conds apart (w.forCall tape i).memory i.args ∧ X (w.forCall tape i).memory i.args) ∧ sizedMet enc C.prog fn (OpenSpec.ofChange s) apart (w.forCall tape i).memory i.args) ∧ a.holds C.prog (lone (Frame.enter C.prog f i.args .normal) [] (w.forCall tape i)))
    (contract : ∀ (W : World) (base : Nat) (args : Array Value) (ds gs : List (DataW H)) (before : List MemPlace),
      (∀ (j : Nat) t v,fn.params[j]? = some t → args[j]? = some v → Value.okWide C.prog W .any base t v) →
      DataW.Whole enc C.prog fn.params.toList s.vars apart W args.toList ds gs before →
      (DataW.weightsEach C.prog (fn.params.toList ++ s.plain.varTypes C.prog) (ds ++ gs)).all (· ≤ reachBytes) = true → X W args → W.ShapedOpen C.prog →
      Calls C.prog f args W fun e W'=>∃ v,e = .returned v ∧ s.post enc C.prog fn apart fresh handsOn again W args v W') :
    ReturnsInHanded a C os f .any (fun w args=>(s.pre enc C.prog fn conds apart w args ∧ X w args) ∧ sizedMet enc C.prog fn (OpenSpec.ofChange s) apart w args) (s.post enc C.prog fn apart fresh handsOn again):=by
  refine returnsInHanded_of_calls own started noInit witness ?_
  intro w tape i _ hsh _ hok hpre _
  obtain ⟨_,_,_,fn',hfn',_,_,_,_,hval⟩:=hok
  have e : fn' = fn:=Option.some.inj (hfn'.symm.trans hfn)
  subst e
  obtain ⟨⟨⟨ds,gs,before,hw,hc⟩,hx⟩,hz⟩:=hpre
  have hw':=DataW.Whole.of_heap (w':=w.forCall tape i) (by rfl) hw
  refine (contract (w.forCall tape i) w.heap.size i.args ds gs before hval hw' (hz.weights hw) (hX _ _ _ (by rfl) hx) hsh).mono fun e W' ⟨v,he,hp⟩=>?_
  subst he
  exact ChangeSpec.post_blind hp
end Gv
end PartDoor
