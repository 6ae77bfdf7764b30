/- A calculus of what functions come to, part f: what is said holds in every world; conditions stand in each theorem. -/
import Derived.HandedShaped
import Derived.LaidMore
import Derived.Laws.Externs
import Derived.Laws.IdiomCopy
import Derived.Lib.AppendStr
import Derived.Lib.AppendZerosOnto
import Derived.Lib.Builder
import Derived.Lib.ItoaNum
import Derived.Lib.LaidTab
import Derived.Lib.Overlaps
import Derived.Lib.UnsafeStr
import Derived.OwnWalk
import Derived.Shelf.GgSortFunc.SmallK
import Derived.Shelf.RegionOpenPlain
import Derived.Shelf.Vars
import Derived.Stop.LaidErr
import Derived.Test.YtffljdmmambdjabGreatDoorVc
import Derived.Test.YtffljdmmambdjabGreatDoorVd
import Derived.WalkKit
set_option linter.unusedVariables false
set_option linter.unusedSimpArgs false
set_option linter.unusedSectionVars false
section PartBld
namespace Gv
open Go Go.RowKit Gw Gp
variable [Glob]
section
variable {w0:Start} {w w':World} {m0 R m:Mem} {q:Loc} {rows:Rows} {P:Program}
end
theorem wpl_append {P:Program} {w:World} {ops:Array Oper} {rest:List Oper} {o:Oper} {a:Act} {Q:Exit→Act→World→Prop} (hgd:o.guard=none) (sl x:Operand) (t u:TypeId)
  (ho:o.op=.call { callee:=.builtin .append,args:=#[sl,x],argTypes:=#[t,u] }) {v v' s:Value} {w':World} (hs:a.eval sl=v) (hx:a.eval x=s)
  (hr:(Builtin.append_ #[t,u] o.type #[v,s]).run P w=.ok v' w') (h:wpList P ops Q rest (a.put o.dst v') w'):wpList P ops Q (o::rest) a w:=by
 refine wpList_plain hgd fun K hK=>?_
 unfold Oper.wp execOp
 simp only [ho,resolve,invoke,builtin,Sem.run_bind,Sem.run_pure,Result.andThen_ok,List.map_toArray,List.map_cons,List.map_nil,hs,hx,hr]
 exact hK _ _ h
end Gv
end PartBld
section PartIns
namespace Gv
open Go Go.RowKit Gw Gp
variable [Glob]
section
variable {w:World} {m:Mem} {P:Program}
theorem run_copy_in {T U E k e b o dLen dCap sLen n:Nat} {z:Value} {g:Bool} {sv:Value} {new:List Value} {arr:Array Value} {E':TypeId} {fz:Nat × Nat} (hT:P.underlying T=some (.slice E)) (hE:tyOf P E=some (z, k, e, g))
  (hlen:(Builtin.lenOf sv).run P w=.ok sLen w) (hn:Nat.min sLen dLen=n) (hnew:(Builtin.firstCells k n sv).run P w=.ok new.toArray w) (h1:∀ u∈new,u.oneCell'=true) (hb:w.heap[b]?=some (.cells arr E' fz)) (hz:noFz arr.size fz) (hs:o+new.length≤arr.size) (typ:TypeId) :
  ∃ w',(Builtin.copy_ #[T,U] typ #[.slice (some ⟨b,o,none⟩) dLen dCap,sv]).run P w=.ok (goInt n) w'∧Bel [b] w w'∧w'.heap[b]?=some (.cells (putL arr o new) E' fz):=by
 obtain ⟨i,u,hi,hu,hiz,hik,hie,hg⟩:=tyOf_parts hE
 obtain ⟨w',hr,hbel,hh⟩:=run_storeCells (P:=P) new w o 0 arr hb hz (by simpa using hs) h1
 refine ⟨w',?_,hbel,by simpa using hh⟩
 simp only [Builtin.copy_]
 simp only [show (#[T,U]:Array TypeId)[0]?=some T from rfl,show (#[Value.slice (some ⟨b,o,none⟩) dLen dCap,sv]:Array Value)[0]?=some (Value.slice (some ⟨b,o,none⟩) dLen dCap) from rfl,show (#[Value.slice (some ⟨b,o,none⟩) dLen dCap,sv]:Array Value)[1]?=some sv from rfl]
 simp only [Sem.run_bind,run_underlying hT,Result.andThen_ok,run_sizeOf hE,Sem.run_pure,hlen,hn,hnew,hr]
theorem wpl_copy {P:Program} {w:World} {ops:Array Oper} {rest:List Oper} {o:Oper} {a:Act} {Q:Exit→Act→World→Prop} (hgd:o.guard=none) (d s:Operand) (t u:TypeId)
  (ho:o.op=.call { callee:=.builtin .copy,args:=#[d,s],argTypes:=#[t,u] }) {v v' x:Value} {w':World} (hd:a.eval d=v) (hs:a.eval s=x)
  (hr:(Builtin.copy_ #[t,u] o.type #[v,x]).run P w=.ok v' w') (h:wpList P ops Q rest (a.put o.dst v') w'):wpList P ops Q (o::rest) a w:=by
 refine wpList_plain hgd fun K hK=>?_
 unfold Oper.wp execOp
 simp only [ho,resolve,invoke,builtin,Sem.run_bind,Sem.run_pure,Result.andThen_ok,List.map_toArray,List.map_cons,List.map_nil,hd,hs,hr]
 exact hK _ _ h
theorem reg_copy {P:Program} {ops:Array Oper} {o:Oper} {a:Act} {w:World} {K:Act→World→Prop} {Q:Exit→Act→World→Prop} {E:Prop} (hgd:o.guard=none) (d s:Operand) (t u:TypeId)
  (ho:o.op=.call { callee:=.builtin .copy,args:=#[d,s],argTypes:=#[t,u] }) {v v' x:Value} {w':World} (hd:a.eval d=v) (hs:a.eval s=x)
  (hr:(Builtin.copy_ #[t,u] o.type #[v,x]).run P w=.ok v' w') (h:K (a.put o.dst v') w'):if Region.wanted o (yielded ops a.tmps)=true then Oper.wp P o a w K Q else E:=by
 have hw:Region.wanted o (yielded ops a.tmps)=true:=by simp [Region.wanted,hgd]
 rw [if_pos hw]
 unfold Oper.wp execOp
 simp only [ho,resolve,invoke,builtin,Sem.run_bind,Sem.run_pure,Result.andThen_ok,List.map_toArray,List.map_cons,List.map_nil,hd,hs,hr]
 exact h
theorem setK_mk:∀ (l:Rows) (i:Nat) (y:Row) (k:Rows→Prop),i < l.length→k (l.set i y)→setK l i y k
 | x::r,0,y,k,_,h=>by simpa [setK] using h
 | x::r,n+1,y,k,hi,h=>setK_mk r n y _ (by simpa using hi) (by simpa using h)
 | [],n,y,k,hi,_=>absurd hi (Nat.not_lt_zero _)
theorem numK_mk {n:Nat} {k:Nat→Prop} (h:k n):numK n k:=by unfold numK;split<;>exact h
theorem pushK_mk:∀ (l:Rows) (n:Nat) (y:Row) (k:Nat→Rows→Prop),k (n+l.length) (l++[y])→pushK n l y k
 | [],n,y,k,h=>numK_mk (k:=fun n=>k n [y]) h
 | x::r,n,y,k,h=>pushK_mk r (n+1) y _ (by simpa [Nat.add_assoc,Nat.add_comm 1] using h)
theorem ElsR.ins {k i:Nat} {els:List V} {x:V} {arr xarr A:Array Value} (he:ElsR m k els arr) (hx:ElsR m k [x] xarr) (hi:i≤els.length)
  (h1:∀ j,j < i*k→A[j]?=arr[j]?) (h2:∀ j,j < k→A[i*k+j]?=xarr[j]?) (h3:∀ j,i*k≤j→j < els.length*k→A[j+k]?=arr[j]?):ElsR m k (els.take i++x::els.drop i) A:=by
 intro t y hy
 have hti:(els.take i).length=i:=by rw [List.length_take];omega
 rcases Nat.lt_trichotomy t i with h|h|h
 ·rw [List.getElem?_append_left (by omega),List.getElem?_take,if_pos h] at hy
  obtain ⟨g1,g2⟩:=he t y hy
  refine ⟨g1,fun j v hj=>?_⟩
  obtain ⟨u,g3,g4⟩:=g2 j v hj
  have hjk:j < k:=by rw [←g1];exact (List.getElem?_eq_some_iff.1 hj).1
  exact ⟨u,by rw [h1 _ (index_lt h hjk)];exact g3,g4⟩
 ·subst h
  rw [List.getElem?_append_right (by omega),hti,Nat.sub_self] at hy
  have hy:x=y:=by simpa using hy
  subst hy
  obtain ⟨g1,g2⟩:=hx 0 x rfl
  refine ⟨g1,fun j v hj=>?_⟩
  obtain ⟨u,g3,g4⟩:=g2 j v hj
  have hjk:j < k:=by rw [←g1];exact (List.getElem?_eq_some_iff.1 hj).1
  exact ⟨u,by rw [h2 _ hjk];simpa using g3,g4⟩
 ·rw [List.getElem?_append_right (by omega),hti,show t-i=(t-1-i)+1 by omega,List.getElem?_cons_succ,List.getElem?_drop,show i+(t-1-i)=t-1 by omega] at hy
  obtain ⟨g1,g2⟩:=he (t-1) y hy
  have hlt:=(List.getElem?_eq_some_iff.1 hy).1
  refine ⟨g1,fun j v hj=>?_⟩
  obtain ⟨u,g3,g4⟩:=g2 j v hj
  have hjk:j < k:=by rw [←g1];exact (List.getElem?_eq_some_iff.1 hj).1
  refine ⟨u,?_,g4⟩
  have e:t*k+j=(t-1)*k+j+k:=by
   have:t*k=(t-1+1)*k:=by congr 1;omega
   rw [this,Nat.add_mul];omega
  have hge:i*k≤(t-1)*k:=Nat.mul_le_mul_right _ (by omega)
  rw [e,h3 _ (by omega) (index_lt hlt hjk)]
  exact g3
theorem src_from {b i k cap l:Nat} {arr:Array Value} {T:TypeId} {fz:Nat × Nat} {els:List V} (hb:w.heap[b]?=some (.cells arr T fz)) (he:ElsR m k els arr) (hi:i≤els.length) :
  ∃ new:List Value,new.length=(els.length-i)*k∧(∀ w':World,w'.heap=w.heap→(Builtin.firstCells k (els.length-i) (.slice (some ⟨b,i*k,none⟩) l cap)).run P w'=.ok new.toArray w')∧(∀ x∈new,x.oneCell'=true)∧∀ j,j < (els.length-i)*k→new[j]?=arr[i*k+j]?:=by
 have S:=src_block (P:=P) (m:=m) (w:=w) (b:=b) (off:=i*k) (k:=k) (cap:=cap) (ys:=els.drop i) hb (fun t x hx=>by
  rw [List.getElem?_drop] at hx
  obtain ⟨g1,g2⟩:=he (i+t) x hx
  refine ⟨g1,fun j v hj=>?_⟩
  obtain ⟨u,g3,g4⟩:=g2 j v hj
  exact ⟨u,by rw [←g3,Nat.add_mul],g4⟩)
 have hl:(els.drop i).length=els.length-i:=List.length_drop
 refine ⟨_,by rw [S.size,hl],fun w' h=>?_,S.one,fun j hj=>?_⟩
 ·have:=S.run w' h
  rw [hl] at this ⊢
  exact this
 ·rw [hl,List.getElem?_map,List.getElem?_range hj]
  obtain ⟨h1,h2,h3⟩:=index_split hj
  have e1:els[i+j / k]?=some (els[i+j / k]'(by omega)):=List.getElem?_eq_getElem (by omega)
  obtain ⟨g1,g2⟩:=he _ _ e1
  obtain ⟨u,g3,g4⟩:=g2 (j % k) _ (List.getElem?_eq_getElem (by omega))
  have e2:(i+j / k)*k+j % k=i*k+j:=by rw [Nat.add_mul];omega
  rw [e2] at g3
  simp [g3]
end
end Gv
end PartIns
section PartP6
namespace Gv
open Go Gp
def accM (c:Cmd) (l:List Bs) (i:Nat):List Bs :=
 if c.kind=6 then l.take i else if c.kind=7 then Lib.compactUpTo l.toArray i else if c.kind=8 then []
 else if c.kind=9 then (l.take i).take c.n.toNat else if c.kind=10 then (l.take i).drop (l.length-c.n.toNat) else (l.take i).filterMap (outC c)
theorem accM_0 (c:Cmd) (l:List Bs):accM c l 0=[]:=by
 unfold accM
 simp [Lib.compactUpTo]
theorem accM_end {c:Cmd} {l:List Bs} (h6:c.kind≠6) (h8:c.kind≠8):accM c l l.length=linesC c l:=by
 unfold accM linesC
 rw [if_neg h6,if_neg h6,if_neg h8,if_neg h8]
 simp only [List.take_length]
 rfl
theorem accM_len (c:Cmd) (l:List Bs) (i:Nat) (hi:i≤l.length):(accM c l i).length≤l.length:=by
 unfold accM
 split
 ·simp;omega
 split
 ·unfold Lib.compactUpTo
  rw [List.length_map]
  exact Nat.le_trans (List.length_filter_le _ _) (by simpa using hi)
 split
 ·simp
 split
 ·simp;omega
 split
 ·simp;omega
 ·exact Nat.le_trans (List.length_filterMap_le _ _) (by simp;omega)
theorem accM_each {c:Cmd} {l:List Bs} {i:Nat} (h:i < l.length) (hk:c.kind < 6):accM c l (i+1)=accM c l i++(match oneC c l[i] with|(t,true)=>[t]|(_,false)=>[]):=by
 unfold accM
 rw [if_neg (by omega),if_neg (by omega),if_neg (by omega),if_neg (by omega),if_neg (by omega),if_neg (by omega),if_neg (by omega),if_neg (by omega),if_neg (by omega),if_neg (by omega)]
 rw [List.take_succ_eq_append_getElem h,List.filterMap_append]
 congr 1
 simp only [List.filterMap_cons,List.filterMap_nil]
 unfold outC
 generalize oneC c l[i]=p
 obtain ⟨t,b⟩:=p
 cases b<;>rfl
theorem accM_6 {c:Cmd} {l:List Bs} {i:Nat} (h:i < l.length) (hk:c.kind=6):accM c l (i+1)=accM c l i++[l[i]]:=by
 unfold accM
 rw [if_pos hk,if_pos hk,List.take_succ_eq_append_getElem h]
theorem accM_7 {c:Cmd} {l:List Bs} {i:Nat} (h:i < l.length) (hk:c.kind=7):accM c l (i+1)=accM c l i++(if i=0∨l.getD (i-1) []≠l[i] then [l[i]] else []):=by
 unfold accM
 rw [if_neg (by omega),if_pos hk,if_neg (by omega),if_pos hk,Lib.compactUpTo_succ]
 congr 1
 have e1:l.toArray[i]! = l[i]:=by rw [getElem!_pos _ _ (by simpa using h)];simp
 have e2:l.toArray[i-1]! = l.getD (i-1) []:=by rw [getElem!_pos _ _ (by simp;omega),List.getD_eq_getElem?_getD,List.getElem?_eq_getElem (by omega)];simp
 unfold Lib.keeps
 rw [e1,e2]
 by_cases h0:i=0∨l.getD (i-1) []≠l[i]
 ·rw [if_pos h0,if_pos (by rcases h0 with h|h;simp [h];simp only [decide_eq_true_eq];right;exact fun e=>h e.symm)]
 ·rw [if_neg h0, if_neg (by
   simp only [decide_eq_true_eq]
   rintro (h|h)
   ·exact h0 (.inl h)
   ·exact h0 (.inr fun e=>h e.symm))]
theorem accM_8 {c:Cmd} {l:List Bs} {i:Nat} (hk:c.kind=8):accM c l i=[]:=by
 unfold accM
 rw [if_neg (by omega),if_neg (by omega),if_pos hk]
theorem accM_9 {c:Cmd} {l:List Bs} {i:Nat} (h:i < l.length) (hk:c.kind=9):accM c l (i+1)=accM c l i++(if (i:Int) < c.n then [l[i]] else []):=by
 unfold accM
 rw [if_neg (by omega),if_neg (by omega),if_neg (by omega),if_pos hk,if_neg (by omega),if_neg (by omega),if_neg (by omega),if_pos hk]
 rw [List.take_succ_eq_append_getElem h,List.take_append]
 congr 1
 rw [List.length_take,Nat.min_eq_left (by omega)]
 by_cases hn:(i:Int) < c.n
 ·rw [if_pos hn,List.take_of_length_le (by simp;omega)]
 ·rw [if_neg hn,show c.n.toNat-i=0 by omega,List.take_zero]
theorem accM_10 {c:Cmd} {l:List Bs} {i:Nat} (h:i < l.length) (hk:c.kind=10) (hn:0≤c.n):accM c l (i+1)=accM c l i++(if (l.length:Int)-c.n≤(i:Int) then [l[i]] else []):=by
 unfold accM
 rw [if_neg (by omega),if_neg (by omega),if_neg (by omega),if_neg (by omega),if_pos hk,if_neg (by omega),if_neg (by omega),if_neg (by omega),if_neg (by omega),if_pos hk]
 rw [List.take_succ_eq_append_getElem h,List.drop_append]
 congr 1
 rw [List.length_take,Nat.min_eq_left (by omega)]
 by_cases hn:(l.length:Int)-c.n≤(i:Int)
 ·rw [if_pos hn,show l.length-c.n.toNat-i=0 by omega,List.drop_zero]
 ·rw [if_neg hn,List.drop_of_length_le (by simp;omega)]
theorem mp_at (f:UInt8→UInt8) {s:Bs} {k:Nat} (h:k < s.length):((s.take k).map f++s.drop k)[k]?=some s[k]:=by
 rw [List.getElem?_append_right (by simp;omega),List.length_map,List.length_take,Nat.min_eq_left (by omega),Nat.sub_self,List.getElem?_drop]
 simp [h]
theorem mp_set (f:UInt8→UInt8) {s:Bs} {k:Nat} (h:k < s.length):(s.take (k+1)).map f++s.drop (k+1)=((s.take k).map f++s.drop k).set k (f s[k]):=by
 have e1:((s.take k).map f).length=k:=by rw [List.length_map,List.length_take,Nat.min_eq_left (by omega)]
 rw [List.set_append_right _ _ (by rw [e1];exact Nat.le_refl _),e1,Nat.sub_self,List.drop_eq_getElem_cons h,List.set_cons_zero,List.take_succ_eq_append_getElem h,List.map_append,List.append_assoc]
 rfl
theorem mp_eq {x y:UInt8} {s d:Bs} {k:Nat} (h:k < s.length) (hd:d=(s.take k).map (fun z=>if z=x then y else z)++s.drop k) (hk:k < d.length):d[k]=s[k]:=by
 have:=mp_at (fun z=>if z=x then y else z) h
 rw [←hd,List.getElem?_eq_getElem hk] at this
 exact Option.some.inj this
theorem turn_next {s t:Bs} {j:Nat} (h:j < s.length) (ht:t=(s.drop (j+1)).reverse):t++[s[j]]=(s.drop j).reverse:=by
 rw [List.drop_eq_getElem_cons h,List.reverse_cons,ht]
theorem one_slice {s:Bs} {j:Nat} (h:j < s.length):(s.take (j+1)).drop j=[s[j]]:=by
 rw [List.take_succ_eq_append_getElem h,List.drop_append,List.drop_of_length_le (by simp;omega),List.length_take,Nat.min_eq_left (by omega),Nat.sub_self]
 rfl
theorem one_3 {x y:UInt8} {n:Int} (s:Bs):oneC ⟨3,[x,y],n⟩ s=(s.map (fun z=>if z=x then y else z),true):=by
 rw [←replace_one]
 rfl
theorem one_5 {w:Bs} {n:Int} (s:Bs):oneC ⟨5,w,n⟩ s=(s.reverse,true):=rfl
end Gv
end PartP6
section PartSem
namespace Gv
open Go Go.RowKit Gw Gp
variable [Glob]
section
variable {P:Program} {w w':World} {a:Act} {ops:Array Oper} {rest:List Oper} {o:Oper} {Q:Exit→Act→World→Prop}
theorem wpl_val (hg:o.guard=none) {v:Value} (hr:(execOp a.eval o).run P w=.ok (.value v) w') (h:wpList P ops Q rest (a.put o.dst v) w'):wpList P ops Q (o::rest) a w :=
 wpList_plain hg fun K hK=>Nx.wp (G:=fun u w''=>u=v∧w''=w') (by rw [hr];exact ⟨rfl,rfl⟩) fun u w'' h'=>by
  obtain ⟨h1,h2⟩:=h'
  subst h1;subst h2;exact hK _ _ h
theorem put_ne {a:Act} {d t:Nat} {v:Value} (h:d≠t):(a.put (some d) v).tmps.getD t undef=a.tmps.getD t undef:=by
 simp [Act.put,Array.getD_eq_getD_getElem?,h]
theorem put_eq {a:Act} {d:Nat} {v:Value} (h:d < a.tmps.size):(a.put (some d) v).tmps.getD d undef=v:=by
 simp [Act.put,Array.getD_eq_getD_getElem?,h]
theorem put_size {a:Act} {d:Option Nat} {v:Value}:(a.put d v).tmps.size=a.tmps.size:=by
 cases d<;>simp [Act.put]
theorem put_defers {a:Act} {d:Option Nat} {v:Value}:(a.put d v).defers=a.defers:=by
 cases d<;>simp [Act.put]
end
end Gv
end PartSem
section PartSrtK
namespace Gv
open Go Go.RowKit Gw Gp
variable [Glob]
def zF:FileS:=⟨[],[]⟩
def encA (arr:Array Value) (n x:Nat):List Value:=if x < n then [arr.getD (x*2) undef,arr.getD (x*2+1) undef] else [.string ⟨#[]⟩,.slice none 0 0]
def nameA (G:List FileS) (x:Nat):Bs:=(G.getD x zF).name
def ltA (G:List FileS) (x y:Nat):Bool:=Op.bytesLess (nameA G x) (nameA G y)
theorem encA_len (arr:Array Value) (n x:Nat):(encA arr n x).length=2:=by unfold encA;split<;>rfl
section
variable {w w':World} {m:Mem} {arr:Array Value} {T:TypeId} {fz:Nat × Nat} {G:List FileS} {b cap:Nat}
theorem encA_at (he:ElsR m 2 (G.map fileV) arr) {x:Nat} (hx:x < G.length):∃ u,arr[x*2]?=some (Gw.str G[x].name)∧arr[x*2+1]?=some u∧u.oneCell'=true:=by
 obtain ⟨h1,h2⟩:=he x (fileV G[x]) (by rw [List.getElem?_map,List.getElem?_eq_getElem hx];rfl)
 obtain ⟨u0,a1,a2,a3⟩:=h2 0 (.str G[x].name) rfl
 obtain ⟨u1,b1,b2,b3⟩:=h2 1 (.sl byteV G[x].b) rfl
 have:=(vr_str a3).1
 subst this
 exact ⟨u1,a1,b1,b2⟩
theorem encA_str (he:ElsR m 2 (G.map fileV) arr) (x:Nat):(encA arr G.length x)[0]! = Gw.str (nameA G x):=by
 unfold encA nameA
 split
 ·rename_i h
  obtain ⟨u,h1,-,-⟩:=encA_at he h
  simp [Array.getD_eq_getD_getElem?,h1,List.getD_eq_getElem?_getD,h]
 ·rename_i h
  rw [List.getD_eq_getElem?_getD,List.getElem?_eq_none (by omega)]
  rfl
theorem encA_one (he:ElsR m 2 (G.map fileV) arr) (x:Nat):∀ v∈encA arr G.length x,v.oneCell'=true:=by
 intro v hv
 unfold encA at hv
 split at hv
 ·rename_i h
  obtain ⟨u,h1,h2,h3⟩:=encA_at he h
  simp only [Array.getD_eq_getD_getElem?,h1,h2,Option.getD_some,List.mem_cons,List.not_mem_nil,or_false] at hv
  rcases hv with rfl|rfl
  ·rfl
  ·exact h3
 ·simp only [List.mem_cons,List.not_mem_nil,or_false] at hv
  rcases hv with rfl|rfl<;>rfl
theorem ltA_swo (G:List FileS):Go.Sort.SWO (ltA G):=by
 have e:∀ x y,ltA G x y=decide (nameA G x < nameA G y):=fun x y=>less_eq _ _
 refine ⟨fun x=>?_,fun x y z h1 h2=>?_,fun x y z h1 h2=>?_⟩
 ·rw [e];simp
 ·rw [e] at *
  simp only [decide_eq_true_eq] at *
  exact bs_trans h1 h2
 ·rw [e] at *
  simp only [decide_eq_false_iff_not] at *
  intro h3
  rcases Classical.em (nameA G y < nameA G x) with h4|h4
  ·exact h2 (bs_trans h4 h3)
  ·rcases Classical.em (nameA G x=nameA G y) with h5|h5
   ·rw [h5] at h3;exact h2 h3
   ·exact h4 (bs_tri h1 h5)
theorem flat_get (d:Array Nat) {t:Nat} (h:t < d.size*2):(Go.Sort.flatK (encA arr G.length) 2 d)[t]! = (encA arr G.length d[t / 2]!)[t % 2]!:=Go.Sort.get_flatK _ _ _ _ h
theorem holdsA (hb:w.heap[b]?=some (.cells arr T fz)) (hz:noFz arr.size fz) (he:ElsR m 2 (G.map fileV) arr) (hs:G.length*2≤arr.size):Go.Sort.HoldsK (encA arr G.length) 2 w b 0 (Array.range G.length):=by
 intro t ht
 have ht:t < G.length*2:=by simpa using ht
 have h2:t / 2 < G.length:=by omega
 have hlt:t < arr.size:=by omega
 have e:(Go.Sort.flatK (encA arr G.length) 2 (Array.range G.length))[t]! = arr[t]:=by
  rw [flat_get _ (by simpa using ht)]
  have h3:(Array.range G.length)[t / 2]! = t / 2:=by simp [h2]
  rw [h3]
  unfold encA
  rw [if_pos h2]
  rcases Nat.mod_two_eq_zero_or_one t with h4|h4
  ·rw [h4,show t / 2*2=t by omega]
   simp [Array.getD_eq_getD_getElem?,hlt]
  ·rw [h4,show t / 2*2+1=t by omega]
   simp [Array.getD_eq_getD_getElem?,hlt]
 refine ⟨?_,?_⟩
 ·simp only [World.cell?,hb,Nat.zero_add]
  simp [hlt,e]
 ·simp only [World.frozen?,hb,Nat.zero_add]
  have:=hz t hlt
  simpa using this
theorem els_putA {d:Array Nat} (he:ElsR m 2 (G.map fileV) arr) (hs:G.length*2≤arr.size) (hd:d.size=G.length) (hr:∀ x∈d.toList,x < G.length):ElsR m 2 ((d.toList.map fun x=>G.getD x zF).map fileV) (Go.Sort.putCells id 0 (Go.Sort.flatK (encA arr G.length) 2 d) arr):=by
 intro i y hy
 rw [List.getElem?_map,List.getElem?_map] at hy
 obtain ⟨f,hf,rfl⟩:=Option.map_eq_some_iff.1 hy
 obtain ⟨x,hx,rfl⟩:=Option.map_eq_some_iff.1 hf
 have hi:i < d.size:=by have:=(List.getElem?_eq_some_iff.1 hx).1;simpa using this
 have hxe:d[i]! = x:=by
  rw [Array.getElem?_toList] at hx
  rw [getElem!_pos d i hi]
  exact (Array.getElem?_eq_some_iff.1 hx).2
 have hxl:x < G.length:=hr x (List.mem_of_getElem? hx)
 have hGx:G.getD x zF=G[x]:=by rw [List.getD_eq_getElem?_getD,List.getElem?_eq_getElem hxl];rfl
 rw [hGx]
 obtain ⟨h1,h2⟩:=he x (fileV G[x]) (by rw [List.getElem?_map,List.getElem?_eq_getElem hxl];rfl)
 refine ⟨h1,fun j v hv=>?_⟩
 obtain ⟨u,g1,g2,g3⟩:=h2 j v hv
 have hj:j < 2:=by rw [←h1];exact (List.getElem?_eq_some_iff.1 hv).1
 refine ⟨u,?_,g2,g3⟩
 have hlt:i*2+j < arr.size:=by omega
 have hfl:(Go.Sort.flatK (encA arr G.length) 2 d)[i*2+j]! = u:=by
  rw [flat_get _ (by omega),show (i*2+j) / 2=i by omega,show (i*2+j) % 2=j by omega,hxe]
  unfold encA
  rw [if_pos hxl]
  match j,hj,g1 with
  | 0,_,g1=>simp [Array.getD_eq_getD_getElem?,show arr[x*2]?=some u from g1]
  | 1,_,g1=>simp [Array.getD_eq_getD_getElem?,g1]
 unfold Go.Sort.putCells
 rw [Array.getElem?_mapIdx,Array.getElem?_eq_getElem hlt]
 simp only [Option.map_some,Nat.zero_add,Nat.zero_le,true_and,Go.Sort.size_flatK,Nat.sub_zero]
 rw [if_pos (by omega),hfl]
 rfl
theorem put_heapI (w:World) {blk off:Nat} (d:Array Value) {arr:Array Value} {T:TypeId} {fz:Nat × Nat} (h:w.heap[blk]?=some (.cells arr T fz)) (k:Nat):(Go.Sort.putRow id w blk off d).heap[k]?=if k=blk then some (.cells (Go.Sort.putCells id off d arr) T fz) else w.heap[k]?:=by
 unfold Go.Sort.putRow Go.Sort.mapBlock
 simp only
 rw [Array.getElem?_modify]
 by_cases e:blk=k
 ·subst e;simp [h,Go.Sort.onCells]
 ·rw [if_neg e,if_neg (fun h=>e h.symm)]
theorem sorted_worldA {n blk:Nat} {d:Array Value} {os:Array Obj} (h:w.heap[blk]?=some (.cells arr T fz)) (hw:w'=Go.Sort.grow (Go.Sort.putRow id (Go.Sort.ahead w n) blk 0 d) os) :
  Bel [blk] w w'∧w'.heap[blk]?=some (.cells (Go.Sort.putCells id 0 d arr) T fz):=by
 have hp:=put_heapI (Go.Sort.ahead w n) (blk:=blk) (off:=0) d (arr:=arr) (T:=T) (fz:=fz) h
 have hs:(Go.Sort.putRow id (Go.Sort.ahead w n) blk 0 d).heap.size=w.heap.size:=by rw [Go.Sort.size_putRow];rfl
 have hb:=lt_of_heap h
 have hg:∀ k,k < w.heap.size→w'.heap[k]?=(Go.Sort.putRow id (Go.Sort.ahead w n) blk 0 d).heap[k]?:=fun k hk=>by
  rw [hw]
  exact Go.Sort.heap_grow_old _ _ (by rw [hs];exact hk)
 refine ⟨⟨by rw [hw];rfl,by rw [hw];rfl,by rw [hw];rfl,?_,fun k hk hx=>?_⟩,?_⟩
 ·rw [hw,Go.Sort.size_grow,hs];omega
 ·rw [hg k hk,hp,if_neg (by simpa using hx)]
  rfl
 ·rw [hg blk hb,hp,if_pos rfl]
theorem sortA_eq {d:Array Nat} {H:List FileS} (hp:Go.Sort.PermIn 0 G.length (Array.range G.length) d) (hs:Go.Sort.SortedIn (ltA G) 0 G.length d) (hH:H.Perm G) (hR:Rises H):d.size=G.length∧(∀ x∈d.toList,x < G.length)∧d.toList.map (fun x=>G.getD x zF)=H:=by
 obtain ⟨p1,p2,p3⟩:=hp
 have hds:d.size=G.length:=by simpa using p1
 have hperm:d.toList.Perm (List.range G.length):=by
  have e1:d.extract 0 G.length=d:=by rw [←hds];simp
  rw [e1] at p3
  refine p3.trans ?_
  simp
 have hlt:∀ x∈d.toList,x < G.length:=fun x hx=>List.mem_range.1 (hperm.mem_iff.1 hx)
 refine ⟨hds,hlt,?_⟩
 have hmp:(d.toList.map fun x=>G.getD x zF).Perm G:=by
  refine (hperm.map _).trans ?_
  have:(List.range G.length).map (fun x=>G.getD x zF)=G:=by
   apply List.ext_getElem
   ·simp
   ·intro i h1 h2
    simp [List.getD_eq_getElem?_getD,h2]
  rw [this]
 have hsort:(d.toList.map fun x=>G.getD x zF).Pairwise fun a c=>¬ c.name < a.name:=by
  rw [List.pairwise_map,List.pairwise_iff_getElem]
  intro i j hi hj hij
  have hi':i < d.size:=by simpa using hi
  have hj':j < d.size:=by simpa using hj
  have:=hs i j (Nat.zero_le _) hij (by omega)
  rw [getElem!_pos d i hi',getElem!_pos d j hj'] at this
  unfold ltA nameA at this
  rw [less_eq] at this
  simpa using this
 have hname:∀ a∈H,∀ c∈H,a.name=c.name→a=c:=by
  intro a ha c hc e
  obtain ⟨i,hi,rfl⟩:=List.getElem_of_mem ha
  obtain ⟨j,hj,rfl⟩:=List.getElem_of_mem hc
  have hR':=List.pairwise_iff_getElem.1 hR
  rcases Nat.lt_trichotomy i j with h|h|h
  ·exact absurd (e ▸ hR' i j hi hj h) (bs_irrefl _)
  ·subst h;rfl
  ·exact absurd (e ▸ hR' j i hj hi h) (bs_irrefl _)
 refine List.Perm.eq_of_pairwise (le:=fun a c:FileS=>¬ c.name < a.name) ?_ hsort (hR.imp fun h h2=>bs_irrefl _ (bs_trans h h2)) (hmp.trans hH.symm)
 intro a c ha hc h1 h2
 have ha':a∈H:=hH.mem_iff.2 (hmp.mem_iff.1 ha)
 refine hname a ha' c hc ?_
 rcases Classical.em (a.name=c.name) with h|h
 ·exact h
 ·exact absurd (bs_tri h2 h) h1
end
end Gv
end PartSrtK
section PartDoor
namespace Gv
open Go Go.Proofs Go.ChangeShapes
abbrev worldGlob (W:World):Glob:=⟨all W⟩
theorem worldGlob_le (W:World):(worldGlob W).mem.Le (all W):=fun b o h=>h
theorem all_cell {W w:World} (h:Gw.Sub (all W) w) {a:Addr} {v:Value} (e:W.cell? a=some v):w.cell? a=some v:=by
 unfold World.cell? at e ⊢
 split at e
 ·rename_i c x y hb
  rw [h _ _ hb]
  exact e
 ·cases e
theorem all_int {P:Program} {W:World} {g:Nat} {t:TypeId} {zero:Array Value} {k:IntKind} (h:W.ShapedOpen P) (hg:g < P.globals.size) (h0:((begin P (fun _ _ => 0) default).world.heap[g]?).bind Obj.row?=some (zero, t)) (hz:zero.size=1)
  (hb:P.buildable t=true) (hc:P.cellTypes P.depth t=some [t]) (hu:P.underlying t=some (.int k)):∀ w,Gw.Sub (all W) w→∃ n,w.cell? ⟨g,0,none⟩=some (.int k n):=fun w hw=>by
 obtain ⟨n,hn⟩:=cell_of_shapedOpen_int h hg h0 hz hb hc hu
 exact ⟨n,all_cell hw hn⟩
theorem all_var {P:Program} {W w:World} (h:Gw.Sub (all W) w) {n:String} {cs:Array Value} (e:W.var? P n=some cs):w.var? P n=some cs:=by
 unfold World.var? at e ⊢
 cases hg:P.globalNamed n with
 | none=>rw [hg] at e;cases e
 | some g =>
  rw [hg] at e
  simp only [Option.bind_some] at e ⊢
  cases hb:W.heap[g]? with
  | none=>rw [hb] at e;cases e
  | some o=>rw [hb] at e;rw [h g o hb];exact e
theorem all_tab {P:Program} {W:World} {n:String} {k:IntKind} {zs:List Int} (h:Lib.TabIs P W n k zs):∀ w,Gw.Sub (all W) w→Lib.TabIs P w n k zs:=fun w hw=>all_var hw h
theorem returns_both {H:Type} {enc:TypeId × Value→H} {a:Assume} {C:Checked} {os:Os} {f:FuncId} {fn:Func} {s:ChangeSpec} {conds:List PathCond} {apart fresh handsOn again:Bool} {X:World→Array Value→Prop}
  (hX:∀ (w w':World) (args:Array Value),w.heap=w'.heap→X w args→X w' args)
  (own:ownKnob C.prog.godebug=none) (started:os.Started) (noInit:C.prog.inits.idxOf? f=none) (hfn:C.prog.funcs[f]?=some fn)
  (witness:∃ (w:World) (tape:Tape) (i:Input),w.os=os∧(w.forCall tape i).Shaped C.prog∧i.vars=[]∧Input.okWide C.prog (w.forCall tape i) .any w.heap.size f i ∧
   ((s.pre enc C.prog fn conds apart (w.forCall tape i).memory i.args∧X (w.forCall tape i).memory i.args)∧sizedMet enc C.prog fn (OpenSpec.ofChange s) apart (w.forCall tape i).memory i.args)∧a.holds C.prog (lone (Frame.enter C.prog f i.args .normal) [] (w.forCall tape i)))
  (contract:∀ (W:World) (base:Nat) (args:Array Value) (ds gs:List (DataW H)) (before:List MemPlace),
   (∀ (j:Nat) t v,fn.params[j]?=some t→args[j]?=some v→Value.okWide C.prog W .any base t v) →
   DataW.Whole enc C.prog fn.params.toList s.vars apart W args.toList ds gs before →
   (DataW.weightsEach C.prog (fn.params.toList++s.plain.varTypes C.prog) (ds++gs)).all (·≤reachBytes)=true→X W args→W.ShapedOpen C.prog →
   Calls C.prog f args W fun e W'=>∃ v,e=.returned v∧s.post enc C.prog fn apart fresh handsOn again W args v W') :
  ReturnsInHanded a C os f .any (fun w args=>(s.pre enc C.prog fn conds apart w args∧X w args)∧sizedMet enc C.prog fn (OpenSpec.ofChange s) apart w args) (s.post enc C.prog fn apart fresh handsOn again):=by
 refine returnsInHanded_of_calls own started noInit witness ?_
 intro w tape i _ hsh _ hok hpre _
 obtain ⟨_,_,_,fn',hfn',_,_,_,_,hval⟩:=hok
 have e:fn'=fn:=Option.some.inj (hfn'.symm.trans hfn)
 subst e
 obtain ⟨⟨⟨ds,gs,before,hw,hc⟩,hx⟩,hz⟩:=hpre
 have hw':=DataW.Whole.of_heap (w':=w.forCall tape i) (by rfl) hw
 refine (contract (w.forCall tape i) w.heap.size i.args ds gs before hval hw' (hz.weights hw) (hX _ _ _ (by rfl) hx) hsh).mono fun e W' ⟨v,he,hp⟩=>?_
 subst he
 exact ChangeSpec.post_blind hp
end Gv
end PartDoor
