/- A calculus of what functions come to, part f: what is said holds in every world; conditions stand in each theorem. -/
import Derived.HandedShaped
import Derived.LaidMore
import Derived.Lib.ItoaNum
import Derived.Lib.LaidTab
import Derived.Shelf.Vars
import Derived.Stop.LaidErr
import Derived.Test.YtffljdmmambdjabGreatDoorVc
import Derived.Test.YtffljdmmambdjabGreatDoorVe
set_option linter.unusedVariables false
set_option linter.unusedSimpArgs false
set_option linter.unusedSectionVars false
section PartFo6
namespace Gv
open Go Go.RowKit Gw Gp
variable [Glob]
structure Only (m m' : MachS) (i : Nat) : Prop where
  g : m'.g = m.g
  f : m'.f = m.f
  p : m'.p = m.p.set i (pr m' i)
theorem set_pr {m : MachS} {i : Nat} (hi : i < m.p.length) : m.p.set i (pr m i) = m.p:=by
  unfold pr
  rw [List.getD_eq_getElem?_getD,List.getElem?_eq_getElem hi]
  simp
theorem Only.refl {m : MachS} {i : Nat} (hi : i < m.p.length) : Only m m i:=⟨rfl,rfl,(set_pr hi).symm⟩
theorem only_set {m m' : MachS} {i : Nat} {p : ProcS} (hi : i < m.p.length) (hg : m'.g = m.g) (hf : m'.f = m.f) (hp : m'.p = m.p.set i p) : Only m m' i:=by
  refine ⟨hg,hf,?_⟩
  rw [hp]
  congr 1
  unfold pr
  rw [hp,getD_set,if_pos ⟨rfl,hi⟩]
theorem Only.trans {a b c : MachS} {i : Nat} (hi : i < a.p.length) (h : Only a b i) (k : Only b c i) : Only a c i :=
  only_set hi (k.g.trans h.g) (k.f.trans h.f) (p:=pr c i) (by rw [k.p,h.p,List.set_set])
end Gv
end PartFo6
section PartFo7
namespace Gv
open Go Go.RowKit Gw Gp
variable [Glob]
end Gv
end PartFo7
section PartFo8
namespace Gv
open Go Go.RowKit Gw Gp
variable [Glob]
theorem prim_nil {P : Program} {f : FuncId} {T : PSpec} (h : PrimOK P f T) : PrimOK P f (fun args rows k=>T args rows fun v rows'=>k v rows' ∨ (v = .nil ∧ ∃ kk,k (.own (rows'.length + 1)) (rows' ++ [.dead,.row kk []]))):=by
  intro w0 m0 args rows k R m q w us C hv hT
  obtain ⟨h1,h2⟩:=h w0 m0 args rows _ R m q w us C hv hT
  refine ⟨h1,h2.mono fun e w' ⟨u,he,v,rows',R',m',q',hk,C',hm',hq',hvu⟩=>?_⟩
  rcases hk with hk | ⟨rfl,kk,hk⟩
  · exact ⟨u,he,v,rows',R',m',q',hk,C',hm',hq',hvu⟩
  let q2 : Loc:=fun r=>if r = rows'.length + 1 then some (none,0,0,kk) else q' r
  have qn : q2 (rows'.length + 1) = some (none,0,0,kk):=if_pos rfl
  have qo : ∀ r,r ≠ rows'.length + 1 → q2 r = q' r:=fun r h=>if_neg h
  have hle : q'.Le q2:=fun r x e=>by
    rw [qo r (fun h=>by have:=C'.rok.fresh r x e; omega)]; exact e
  have old : ∀ (j : Nat) z,(rows' ++ [Row.dead,.row kk []])[j]? = some z → rows'[j]? = some z ∨ z = .dead ∨ (j = rows'.length + 1 ∧ z = .row kk []):=fun j z hz=>by
    rcases Nat.lt_or_ge j rows'.length with h | h
    · rw [List.getElem?_append_left h] at hz; exact .inl hz
    · rw [List.getElem?_append_right h] at hz
      match hj : j - rows'.length,hz with
      | 0,hz=>simp at hz; exact .inr (.inl hz.symm)
      | 1,hz=>simp at hz; exact .inr (.inr ⟨by omega,hz.symm⟩)
      | n + 2,hz=>simp at hz
  have occ : ∀ {j : Nat} {z : Row} {b : Nat},(rows' ++ [Row.dead,.row kk []])[j]? = some z → z.mut = true → Occ q2 j z b → rows'[j]? = some z ∧ Occ q' j z b:=fun {j z b} hz hm hb=>by
    rcases old j z hz with hz | rfl | ⟨rfl,rfl⟩
    · have hj:=(List.getElem?_eq_some_iff.1 hz).1
      exact ⟨hz,occ_q (qo j (by omega)).symm hb⟩
    · cases hm
    · obtain ⟨n,c,k,hb⟩:=hb
      rw [qn] at hb
      cases hb
  refine ⟨u,he,.own (rows'.length + 1),_,R',m',q2,hk,⟨C'.sit,⟨fun r x hx=>?_,fun j z hz=>?_,fun j j' z z' b hz hz' hy hy' hb hb'=>?_⟩⟩,hm',hq'.trans hle,?_⟩
  · simp only [List.length_append,List.length_cons,List.length_nil]
    by_cases g : r = rows'.length + 1
    · omega
    · rw [qo r g] at hx
      have:=C'.rok.fresh r x hx
      omega
  · rcases old j z hz with hz | rfl | ⟨rfl,rfl⟩
    · exact (C'.rok.row j z hz).up (Mem.Le.refl _) hle fun _ _ _=>rfl
    · trivial
    · exact ⟨none,0,qn,Nat.le_refl _,Nat.zero_le _,fun _=>rfl,fun b hb=>by cases hb⟩
  · obtain ⟨g1,g2⟩:=occ hz hy hb
    obtain ⟨g1',g2'⟩:=occ hz' hy' hb'
    exact C'.rok.apart j j' z z' b g1 g1' hy hy' g2 g2'
  · cases hvu
    exact .own (ob:=none) qn
end Gv
end PartFo8
section PartDoor
namespace Gv
open Go Go.Proofs Go.ChangeShapes
abbrev worldGlob (W : World) : Glob:=⟨all W⟩
theorem worldGlob_le (W : World) : (worldGlob W).mem.Le (all W):=fun b o h=>h
theorem all_cell {W w : World} (h : Gw.Sub (all W) w) {a : Addr} {v : Value} (e : W.cell? a = some v) : w.cell? a = some v:=by
  unfold World.cell? at e ⊢
  split at e
  · rename_i c x y hb
    rw [h _ _ hb]
    exact e
  · cases e
theorem all_int {P : Program} {W : World} {g : Nat} {t : TypeId} {zero : Array Value} {k : IntKind} (h : W.ShapedOpen P) (hg : g < P.globals.size) (h0 : ((begin P (fun _ _ => 0) default).world.heap[g]?).bind Obj.row? = some (zero, t)) (hz : zero.size = 1)
    (hb : P.buildable t = true) (hc : P.cellTypes P.depth t = some [t]) (hu : P.underlying t = some (.int k)) : ∀ w,Gw.Sub (all W) w → ∃ n,w.cell? ⟨g,0,none⟩ = some (.int k n):=fun w hw=>by
  obtain ⟨n,hn⟩:=cell_of_shapedOpen_int h hg h0 hz hb hc hu
  exact ⟨n,all_cell hw hn⟩
theorem all_var {P : Program} {W w : World} (h : Gw.Sub (all W) w) {n : String} {cs : Array Value} (e : W.var? P n = some cs) : w.var? P n = some cs:=by
  unfold World.var? at e ⊢
  cases hg : P.globalNamed n with
  | none=>rw [hg] at e; cases e
  | some g =>
    rw [hg] at e
    simp only [Option.bind_some] at e ⊢
    cases hb : W.heap[g]? with
    | none=>rw [hb] at e; cases e
    | some o=>rw [hb] at e; rw [h g o hb]; exact e
theorem all_tab {P : Program} {W : World} {n : String} {k : IntKind} {zs : List Int} (h : Lib.TabIs P W n k zs) : ∀ w,Gw.Sub (all W) w → Lib.TabIs P w n k zs:=fun w hw=>all_var hw h
theorem returns_both {H : Type} {enc : TypeId × Value → H} {a : Assume} {C : Checked} {os : Os} {f : FuncId} {fn : Func} {s : ChangeSpec} {conds : List PathCond} {apart fresh handsOn again : Bool} {X : World → Array Value → Prop}
    (hX : ∀ (w w' : World) (args : Array Value),w.heap = w'.heap → X w args → X w' args)
    (own : ownKnob C.prog.godebug = none) (started : os.Started) (noInit : C.prog.inits.idxOf? f = none) (hfn : C.prog.funcs[f]? = some fn)
    (witness : ∃ (w : World) (tape : Tape) (i : Input),w.os = os ∧ (w.forCall tape i).Shaped C.prog ∧ i.vars = [] ∧ Input.okWide C.prog (w.forCall tape i) .any w.heap.size f i ∧
      ((s.pre enc C.prog fn conds apart (w.forCall tape i).memory i.args ∧ X (w.forCall tape i).memory i.args) ∧ sizedMet enc C.prog fn (OpenSpec.ofChange s) apart (w.forCall tape i).memory i.args) ∧ a.holds C.prog (lone (Frame.enter C.prog f i.args .normal) [] (w.forCall tape i)))
    (contract : ∀ (W : World) (base : Nat) (args : Array Value) (ds gs : List (DataW H)) (before : List MemPlace),
      (∀ (j : Nat) t v,fn.params[j]? = some t → args[j]? = some v → Value.okWide C.prog W .any base t v) →
      DataW.Whole enc C.prog fn.params.toList s.vars apart W args.toList ds gs before →
      (DataW.weightsEach C.prog (fn.params.toList ++ s.plain.varTypes C.prog) (ds ++ gs)).all (· ≤ reachBytes) = true → X W args → W.ShapedOpen C.prog →
      Calls C.prog f args W fun e W'=>∃ v,e = .returned v ∧ s.post enc C.prog fn apart fresh handsOn again W args v W') :
    ReturnsInHanded a C os f .any (fun w args=>(s.pre enc C.prog fn conds apart w args ∧ X w args) ∧ sizedMet enc C.prog fn (OpenSpec.ofChange s) apart w args) (s.post enc C.prog fn apart fresh handsOn again):=by
  refine returnsInHanded_of_calls own started noInit witness ?_
  intro w tape i _ hsh _ hok hpre _
  obtain ⟨_,_,_,fn',hfn',_,_,_,_,hval⟩:=hok
  have e : fn' = fn:=Option.some.inj (hfn'.symm.trans hfn)
  subst e
  obtain ⟨⟨⟨ds,gs,before,hw,hc⟩,hx⟩,hz⟩:=hpre
  have hw':=DataW.Whole.of_heap (w':=w.forCall tape i) (by rfl) hw
  refine (contract (w.forCall tape i) w.heap.size i.args ds gs before hval hw' (hz.weights hw) (hX _ _ _ (by rfl) hx) hsh).mono fun e W' ⟨v,he,hp⟩=>?_
  subst he
  exact ChangeSpec.post_blind hp
end Gv
end PartDoor
