/- A calculus of what functions come to, part f: what is said holds in every world; conditions stand in each theorem. -/
import Derived.HandedShaped
import Derived.LaidMore
import Derived.Lib.ItoaNum
import Derived.Lib.LaidTab
import Derived.Shelf.Vars
import Derived.Stop.LaidErr
import Derived.Test.YtffljdmmambdjabGreatDoorVc
import Derived.Test.YtffljdmmambdjabGreatDoorVd
import Derived.Test.YtffljdmmambdjabGreatDoorVe
set_option linter.unusedVariables false
set_option linter.unusedSimpArgs false
set_option linter.unusedSectionVars false
section PartP23
namespace Gv
open Go Gp
def Rises (F:List FileS):Prop:=F.Pairwise fun x y=>x.name < y.name
theorem bs_trans {a b c:Bs} (h:a < b) (k:b < c):a < c:=List.lt_trans h k
theorem bs_irrefl (a:Bs):¬ a < a:=List.lt_irrefl a
theorem bs_tri {a b:Bs} (h:¬ a < b) (h2:¬ a=b):b < a:=by
 rcases List.le_total a b with h3|h3
 ·rcases List.le_iff_lt_or_eq.1 h3 with h4|h4
  ·exact absurd h4 h
  ·exact absurd h4 h2
 ·rcases List.le_iff_lt_or_eq.1 h3 with h4|h4
  ·exact h4
  ·exact absurd h4.symm h2
theorem files_iff {F:List FileS}:checkFiles F=0↔F.length≤12∧(∀ f∈F,isWord f.name=true∧f.b.length≤4000)∧Rises F:=by
 unfold checkFiles
 constructor
 ·intro h
  split at h
  ·cases h
  ·rename_i h1
   have:=filesGo_iff.1 h
   exact ⟨by omega,this.1,this.2.1⟩
 ·rintro ⟨h1,h2,h3⟩
  rw [if_neg (by omega)]
  exact filesGo_iff.2 ⟨h2,h3,fun q' e=>by cases e⟩
theorem notLess_iff {n:Bs} {f:FileS}:notLess n f=true↔¬ f.name < n:=by unfold notLess;rw [less_eq];simp
theorem place_cons {f:FileS} {r:List FileS} {n:Bs}:placeI (f::r) n=if f.name < n then placeI r n+1 else 0:=by
 unfold placeI
 rw [List.findIdx_cons]
 by_cases h:f.name < n
 ·have:notLess n f=false := by
   cases e:notLess n f with
   | false=>rfl
   | true=>exact absurd h (notLess_iff.1 e)
  rw [this,if_pos h];rfl
 ·rw [notLess_iff.2 h,if_neg h];rfl
def getN (F:List FileS) (n:Bs):Bs:=((F.find? fun f=>decide (f.name=n)).map (·.b)).getD []
theorem fileAt_getN {n:Bs}:∀ {F:List FileS},Rises F→fileAt F n=getN F n
 | [],_=>rfl
 | f::r,h=>by
  have h':=List.pairwise_cons.1 h
  have ih:=fileAt_getN (n:=n) h'.2
  unfold fileAt getN at ih ⊢
  rw [place_cons,List.find?_cons]
  by_cases h1:f.name < n
  ·have h2:¬ f.name=n:=fun e=>bs_irrefl _ (e ▸ h1)
   rw [if_pos h1,List.getElem?_cons_succ,ih,decide_eq_false h2]
  ·rw [if_neg h1]
   by_cases h2:f.name=n
   ·rw [decide_eq_true h2]
    simp [h2]
   ·rw [decide_eq_false h2]
    have h3:=bs_tri h1 h2
    have:r.find? (fun f=>decide (f.name=n))=none:=by
     rw [List.find?_eq_none]
     intro g hg
     have:=bs_trans h3 (h'.1 g hg)
     simpa using fun e:g.name=n=>bs_irrefl _ (e ▸ this)
    simp [h2,this]
end Gv
end PartP23
section PartP6
namespace Gv
open Go Gp
def accM (c:Cmd) (l:List Bs) (i:Nat):List Bs :=
 if c.kind=6 then l.take i else if c.kind=7 then Lib.compactUpTo l.toArray i else if c.kind=8 then []
 else if c.kind=9 then (l.take i).take c.n.toNat else if c.kind=10 then (l.take i).drop (l.length-c.n.toNat) else (l.take i).filterMap (outC c)
theorem accM_0 (c:Cmd) (l:List Bs):accM c l 0=[]:=by
 unfold accM
 simp [Lib.compactUpTo]
theorem accM_end {c:Cmd} {l:List Bs} (h6:c.kind≠6) (h8:c.kind≠8):accM c l l.length=linesC c l:=by
 unfold accM linesC
 rw [if_neg h6,if_neg h6,if_neg h8,if_neg h8]
 simp only [List.take_length]
 rfl
theorem accM_len (c:Cmd) (l:List Bs) (i:Nat) (hi:i≤l.length):(accM c l i).length≤l.length:=by
 unfold accM
 split
 ·simp;omega
 split
 ·unfold Lib.compactUpTo
  rw [List.length_map]
  exact Nat.le_trans (List.length_filter_le _ _) (by simpa using hi)
 split
 ·simp
 split
 ·simp;omega
 split
 ·simp;omega
 ·exact Nat.le_trans (List.length_filterMap_le _ _) (by simp;omega)
theorem accM_each {c:Cmd} {l:List Bs} {i:Nat} (h:i < l.length) (hk:c.kind < 6):accM c l (i+1)=accM c l i++(match oneC c l[i] with|(t,true)=>[t]|(_,false)=>[]):=by
 unfold accM
 rw [if_neg (by omega),if_neg (by omega),if_neg (by omega),if_neg (by omega),if_neg (by omega),if_neg (by omega),if_neg (by omega),if_neg (by omega),if_neg (by omega),if_neg (by omega)]
 rw [List.take_succ_eq_append_getElem h,List.filterMap_append]
 congr 1
 simp only [List.filterMap_cons,List.filterMap_nil]
 unfold outC
 generalize oneC c l[i]=p
 obtain ⟨t,b⟩:=p
 cases b<;>rfl
theorem accM_6 {c:Cmd} {l:List Bs} {i:Nat} (h:i < l.length) (hk:c.kind=6):accM c l (i+1)=accM c l i++[l[i]]:=by
 unfold accM
 rw [if_pos hk,if_pos hk,List.take_succ_eq_append_getElem h]
theorem accM_7 {c:Cmd} {l:List Bs} {i:Nat} (h:i < l.length) (hk:c.kind=7):accM c l (i+1)=accM c l i++(if i=0∨l.getD (i-1) []≠l[i] then [l[i]] else []):=by
 unfold accM
 rw [if_neg (by omega),if_pos hk,if_neg (by omega),if_pos hk,Lib.compactUpTo_succ]
 congr 1
 have e1:l.toArray[i]! = l[i]:=by rw [getElem!_pos _ _ (by simpa using h)];simp
 have e2:l.toArray[i-1]! = l.getD (i-1) []:=by rw [getElem!_pos _ _ (by simp;omega),List.getD_eq_getElem?_getD,List.getElem?_eq_getElem (by omega)];simp
 unfold Lib.keeps
 rw [e1,e2]
 by_cases h0:i=0∨l.getD (i-1) []≠l[i]
 ·rw [if_pos h0,if_pos (by rcases h0 with h|h;simp [h];simp only [decide_eq_true_eq];right;exact fun e=>h e.symm)]
 ·rw [if_neg h0, if_neg (by
   simp only [decide_eq_true_eq]
   rintro (h|h)
   ·exact h0 (.inl h)
   ·exact h0 (.inr fun e=>h e.symm))]
theorem accM_8 {c:Cmd} {l:List Bs} {i:Nat} (hk:c.kind=8):accM c l i=[]:=by
 unfold accM
 rw [if_neg (by omega),if_neg (by omega),if_pos hk]
theorem accM_9 {c:Cmd} {l:List Bs} {i:Nat} (h:i < l.length) (hk:c.kind=9):accM c l (i+1)=accM c l i++(if (i:Int) < c.n then [l[i]] else []):=by
 unfold accM
 rw [if_neg (by omega),if_neg (by omega),if_neg (by omega),if_pos hk,if_neg (by omega),if_neg (by omega),if_neg (by omega),if_pos hk]
 rw [List.take_succ_eq_append_getElem h,List.take_append]
 congr 1
 rw [List.length_take,Nat.min_eq_left (by omega)]
 by_cases hn:(i:Int) < c.n
 ·rw [if_pos hn,List.take_of_length_le (by simp;omega)]
 ·rw [if_neg hn,show c.n.toNat-i=0 by omega,List.take_zero]
theorem accM_10 {c:Cmd} {l:List Bs} {i:Nat} (h:i < l.length) (hk:c.kind=10) (hn:0≤c.n):accM c l (i+1)=accM c l i++(if (l.length:Int)-c.n≤(i:Int) then [l[i]] else []):=by
 unfold accM
 rw [if_neg (by omega),if_neg (by omega),if_neg (by omega),if_neg (by omega),if_pos hk,if_neg (by omega),if_neg (by omega),if_neg (by omega),if_neg (by omega),if_pos hk]
 rw [List.take_succ_eq_append_getElem h,List.drop_append]
 congr 1
 rw [List.length_take,Nat.min_eq_left (by omega)]
 by_cases hn:(l.length:Int)-c.n≤(i:Int)
 ·rw [if_pos hn,show l.length-c.n.toNat-i=0 by omega,List.drop_zero]
 ·rw [if_neg hn,List.drop_of_length_le (by simp;omega)]
theorem mp_at (f:UInt8→UInt8) {s:Bs} {k:Nat} (h:k < s.length):((s.take k).map f++s.drop k)[k]?=some s[k]:=by
 rw [List.getElem?_append_right (by simp;omega),List.length_map,List.length_take,Nat.min_eq_left (by omega),Nat.sub_self,List.getElem?_drop]
 simp [h]
theorem mp_set (f:UInt8→UInt8) {s:Bs} {k:Nat} (h:k < s.length):(s.take (k+1)).map f++s.drop (k+1)=((s.take k).map f++s.drop k).set k (f s[k]):=by
 have e1:((s.take k).map f).length=k:=by rw [List.length_map,List.length_take,Nat.min_eq_left (by omega)]
 rw [List.set_append_right _ _ (by rw [e1];exact Nat.le_refl _),e1,Nat.sub_self,List.drop_eq_getElem_cons h,List.set_cons_zero,List.take_succ_eq_append_getElem h,List.map_append,List.append_assoc]
 rfl
theorem mp_eq {x y:UInt8} {s d:Bs} {k:Nat} (h:k < s.length) (hd:d=(s.take k).map (fun z=>if z=x then y else z)++s.drop k) (hk:k < d.length):d[k]=s[k]:=by
 have:=mp_at (fun z=>if z=x then y else z) h
 rw [←hd,List.getElem?_eq_getElem hk] at this
 exact Option.some.inj this
theorem turn_next {s t:Bs} {j:Nat} (h:j < s.length) (ht:t=(s.drop (j+1)).reverse):t++[s[j]]=(s.drop j).reverse:=by
 rw [List.drop_eq_getElem_cons h,List.reverse_cons,ht]
theorem one_slice {s:Bs} {j:Nat} (h:j < s.length):(s.take (j+1)).drop j=[s[j]]:=by
 rw [List.take_succ_eq_append_getElem h,List.drop_append,List.drop_of_length_le (by simp;omega),List.length_take,Nat.min_eq_left (by omega),Nat.sub_self]
 rfl
theorem one_3 {x y:UInt8} {n:Int} (s:Bs):oneC ⟨3,[x,y],n⟩ s=(s.map (fun z=>if z=x then y else z),true):=by
 rw [←replace_one]
 rfl
theorem one_5 {w:Bs} {n:Int} (s:Bs):oneC ⟨5,w,n⟩ s=(s.reverse,true):=rfl
end Gv
end PartP6
section PartDoor
namespace Gv
open Go Go.Proofs Go.ChangeShapes
abbrev worldGlob (W:World):Glob:=⟨all W⟩
theorem worldGlob_le (W:World):(worldGlob W).mem.Le (all W):=fun b o h=>h
theorem all_cell {W w:World} (h:Gw.Sub (all W) w) {a:Addr} {v:Value} (e:W.cell? a=some v):w.cell? a=some v:=by
 unfold World.cell? at e ⊢
 split at e
 ·rename_i c x y hb
  rw [h _ _ hb]
  exact e
 ·cases e
theorem all_int {P:Program} {W:World} {g:Nat} {t:TypeId} {zero:Array Value} {k:IntKind} (h:W.ShapedOpen P) (hg:g < P.globals.size) (h0:((begin P (fun _ _ => 0) default).world.heap[g]?).bind Obj.row?=some (zero, t)) (hz:zero.size=1)
  (hb:P.buildable t=true) (hc:P.cellTypes P.depth t=some [t]) (hu:P.underlying t=some (.int k)):∀ w,Gw.Sub (all W) w→∃ n,w.cell? ⟨g,0,none⟩=some (.int k n):=fun w hw=>by
 obtain ⟨n,hn⟩:=cell_of_shapedOpen_int h hg h0 hz hb hc hu
 exact ⟨n,all_cell hw hn⟩
theorem all_var {P:Program} {W w:World} (h:Gw.Sub (all W) w) {n:String} {cs:Array Value} (e:W.var? P n=some cs):w.var? P n=some cs:=by
 unfold World.var? at e ⊢
 cases hg:P.globalNamed n with
 | none=>rw [hg] at e;cases e
 | some g =>
  rw [hg] at e
  simp only [Option.bind_some] at e ⊢
  cases hb:W.heap[g]? with
  | none=>rw [hb] at e;cases e
  | some o=>rw [hb] at e;rw [h g o hb];exact e
theorem all_tab {P:Program} {W:World} {n:String} {k:IntKind} {zs:List Int} (h:Lib.TabIs P W n k zs):∀ w,Gw.Sub (all W) w→Lib.TabIs P w n k zs:=fun w hw=>all_var hw h
theorem returns_both {H:Type} {enc:TypeId × Value→H} {a:Assume} {C:Checked} {os:Os} {f:FuncId} {fn:Func} {s:ChangeSpec} {conds:List PathCond} {apart fresh handsOn again:Bool} {X:World→Array Value→Prop}
  (hX:∀ (w w':World) (args:Array Value),w.heap=w'.heap→X w args→X w' args)
  (own:ownKnob C.prog.godebug=none) (started:os.Started) (noInit:C.prog.inits.idxOf? f=none) (hfn:C.prog.funcs[f]?=some fn)
  (witness:∃ (w:World) (tape:Tape) (i:Input),w.os=os∧(w.forCall tape i).Shaped C.prog∧i.vars=[]∧Input.okWide C.prog (w.forCall tape i) .any w.heap.size f i ∧
   ((s.pre enc C.prog fn conds apart (w.forCall tape i).memory i.args∧X (w.forCall tape i).memory i.args)∧sizedMet enc C.prog fn (OpenSpec.ofChange s) apart (w.forCall tape i).memory i.args)∧a.holds C.prog (lone (Frame.enter C.prog f i.args .normal) [] (w.forCall tape i)))
  (contract:∀ (W:World) (base:Nat) (args:Array Value) (ds gs:List (DataW H)) (before:List MemPlace),
   (∀ (j:Nat) t v,fn.params[j]?=some t→args[j]?=some v→Value.okWide C.prog W .any base t v) →
   DataW.Whole enc C.prog fn.params.toList s.vars apart W args.toList ds gs before →
   (DataW.weightsEach C.prog (fn.params.toList++s.plain.varTypes C.prog) (ds++gs)).all (·≤reachBytes)=true→X W args→W.ShapedOpen C.prog →
   Calls C.prog f args W fun e W'=>∃ v,e=.returned v∧s.post enc C.prog fn apart fresh handsOn again W args v W') :
  ReturnsInHanded a C os f .any (fun w args=>(s.pre enc C.prog fn conds apart w args∧X w args)∧sizedMet enc C.prog fn (OpenSpec.ofChange s) apart w args) (s.post enc C.prog fn apart fresh handsOn again):=by
 refine returnsInHanded_of_calls own started noInit witness ?_
 intro w tape i _ hsh _ hok hpre _
 obtain ⟨_,_,_,fn',hfn',_,_,_,_,hval⟩:=hok
 have e:fn'=fn:=Option.some.inj (hfn'.symm.trans hfn)
 subst e
 obtain ⟨⟨⟨ds,gs,before,hw,hc⟩,hx⟩,hz⟩:=hpre
 have hw':=DataW.Whole.of_heap (w':=w.forCall tape i) (by rfl) hw
 refine (contract (w.forCall tape i) w.heap.size i.args ds gs before hval hw' (hz.weights hw) (hX _ _ _ (by rfl) hx) hsh).mono fun e W' ⟨v,he,hp⟩=>?_
 subst he
 exact ChangeSpec.post_blind hp
end Gv
end PartDoor
