/- A calculus of what functions come to, part d: what is said holds in every world; conditions stand in each theorem. -/
import Derived.Laws.Externs
import Derived.Laws.IdiomCopy
import Derived.Lib.AppendStr
import Derived.Lib.AtoiAllCases
import Derived.Lib.Builder
import Derived.Lib.IndexBytes
import Derived.Lib.IndexLaws
import Derived.Lib.ItoaLen
import Derived.Lib.ItoaMem
import Derived.Lib.ItoaNum
import Derived.Lib.Join
import Derived.Lib.LaidTab
import Derived.Lib.Replace
import Derived.Lib.SlTrimSet
import Derived.Lib.SlicesCompact
import Derived.Lib.SplitLaws
import Derived.Lib.UnsafeStr
import Derived.OwnWalk
import Derived.Shelf.RegionOpenPlain
import Derived.Sort.EncStr
import Derived.Sort.Grow
import Derived.Sort.OwnSorted
import Derived.Sort.Walk0
import Derived.Test.YtffljdmmambdjabGreatDoorVc
import Derived.WalkKit
set_option linter.unusedVariables false
set_option linter.unusedSimpArgs false
set_option linter.unusedSectionVars false
section PartP1
namespace Gp
abbrev Bs:=List UInt8
def put : List Bs → Bs
  | []=>[]
  | s :: r=>s ++ 10 :: put r
def lineGo : Bs → Bs → List Bs
  | acc,[]=>if acc = [] then [] else [acc]
  | acc,c :: r=>if c = 10 then acc :: lineGo [] r else lineGo (acc ++ [c]) r
def linesOf (b : Bs) : List Bs:=lineGo [] b
def whole (b : Bs) : Bs:=put (linesOf b)
def NoNl (l : List Bs) : Prop:=∀ s ∈ l,(10 : UInt8) ∉ s
theorem put_append (a b : List Bs) : put (a ++ b) = put a ++ put b:=by
  induction a with
  | nil=>rfl
  | cons s r ih=>simp [put,ih]
theorem put_snoc (l : List Bs) (s : Bs) : put (l ++ [s]) = put l ++ (s ++ [10]):=by
  rw [put_append]; rfl
theorem put_take_succ {l : List Bs} {i : Nat} (h : i < l.length) : put (l.take (i + 1)) = put (l.take i) ++ (l[i] ++ [10]):=by
  rw [List.take_succ_eq_append_getElem h,put_snoc]
theorem put_take_le (l : List Bs) (i : Nat) : (put (l.take i)).length ≤ (put l).length:=by
  have:=congrArg (fun a=>(put a).length) (List.take_append_drop i l)
  simp only [put_append,List.length_append] at this
  omega
theorem nl_cases (b : Bs) : (10 : UInt8) ∉ b ∨ ∃ a r,b = a ++ 10 :: r ∧ (10 : UInt8) ∉ a:=by
  induction b with
  | nil=>exact .inl (by simp)
  | cons c b ih =>
    by_cases h : c = 10
    · subst h
      exact .inr ⟨[],b,rfl,by simp⟩
    · rcases ih with ih | ⟨a,r,rfl,ha⟩
      · exact .inl (by simp [ih,Ne.symm h])
      · exact .inr ⟨c :: a,r,rfl,by simp [ha,Ne.symm h]⟩
theorem lineGo_nl {a : Bs} (h : (10 : UInt8) ∉ a) (r : Bs) : ∀ acc,lineGo acc (a ++ 10 :: r) = (acc ++ a) :: linesOf r:=by
  induction a with
  | nil=>intro acc; simp [lineGo,linesOf]
  | cons c a ih =>
    intro acc
    simp only [List.mem_cons,not_or] at h
    show lineGo acc (c :: (a ++ 10 :: r)) = _
    unfold lineGo
    rw [if_neg (fun e=>h.1 e.symm),ih h.2]
    simp
theorem lineGo_no {a : Bs} (h : (10 : UInt8) ∉ a) : ∀ acc,lineGo acc a = if acc ++ a = [] then [] else [acc ++ a]:=by
  induction a with
  | nil=>intro acc; simp [lineGo]
  | cons c a ih =>
    intro acc
    simp only [List.mem_cons,not_or] at h
    unfold lineGo
    rw [if_neg (fun e=>h.1 e.symm),ih h.2]
    simp
theorem linesOf_nl {a : Bs} (h : (10 : UInt8) ∉ a) (r : Bs) : linesOf (a ++ 10 :: r) = a :: linesOf r:=by
  unfold linesOf
  rw [lineGo_nl h]; rfl
theorem linesOf_no {a : Bs} (h : (10 : UInt8) ∉ a) (h0 : a ≠ []) : linesOf a = [a]:=by
  unfold linesOf
  rw [lineGo_no h]; simp [h0]
theorem linesOf_nil : linesOf [] = []:=rfl
theorem linesOf_append {l : List Bs} (h : NoNl l) (b : Bs) : linesOf (put l ++ b) = l ++ linesOf b:=by
  induction l with
  | nil=>rfl
  | cons s r ih =>
    have:=ih (fun x hx=>h x (by simp [hx]))
    show linesOf (s ++ 10 :: put r ++ b) = _
    rw [List.append_assoc,List.cons_append,linesOf_nl (h s (by simp)),this]
    rfl
theorem linesOf_put {l : List Bs} (h : NoNl l) : linesOf (put l) = l:=by
  have:=linesOf_append h []
  simpa [linesOf_nil] using this
theorem line_ind {P : Bs → Prop} (h0 : P []) (h1 : ∀ a,(10 : UInt8) ∉ a → a ≠ [] → P a) (h2 : ∀ a r,(10 : UInt8) ∉ a → P r → P (a ++ 10 :: r)) : ∀ b,P b:=by
  intro b
  generalize hn : b.length = n
  induction n using Nat.strongRecOn generalizing b with
  | ind n ih =>
    rcases nl_cases b with h | ⟨a,r,rfl,ha⟩
    · by_cases hb : b = []
      · subst hb; exact h0
      · exact h1 b h hb
    · refine h2 a r ha (ih r.length ?_ r rfl)
      subst hn
      simp
      omega
theorem linesOf_no10 (b : Bs) : NoNl (linesOf b):=by
  induction b using line_ind with
  | h0=>intro s hs; cases hs
  | h1 a h h0=>rw [linesOf_no h h0]; intro s hs; simp at hs; subst hs; exact h
  | h2 a r h ih =>
    rw [linesOf_nl h]
    intro s hs
    rcases List.mem_cons.1 hs with rfl | hs
    · exact h
    · exact ih s hs
def ended (b : Bs) : Prop:=b = [] ∨ b.getLast? = some 10
theorem whole_eq (b : Bs) : whole b = b ∧ ended b ∨ whole b = b ++ [10] ∧ ¬ ended b:=by
  induction b using line_ind with
  | h0=>exact .inl ⟨rfl,.inl rfl⟩
  | h1 a h h0 =>
    right
    unfold whole
    rw [linesOf_no h h0]
    refine ⟨rfl,?_⟩
    rintro (h1 | h1)
    · exact h0 h1
    · exact h (List.mem_of_getLast? h1)
  | h2 a r h ih =>
    unfold whole at ih ⊢
    rw [linesOf_nl h]
    rcases ih with ⟨e1,e2⟩ | ⟨e1,e2⟩
    · left
      refine ⟨by rw [put,e1],.inr ?_⟩
      rcases e2 with e2 | e2
      · rw [e2]; simp
      · rw [List.getLast?_append,List.getLast?_cons,e2]; simp
    · right
      refine ⟨by rw [put,e1]; simp,?_⟩
      rintro (h1 | h1)
      · simp at h1
      · apply e2
        by_cases hr : r = []
        · exact .inl hr
        · right
          rw [List.getLast?_append,List.getLast?_cons] at h1
          cases hl : r.getLast? with
          | none=>exact absurd (List.getLast?_eq_none_iff.1 hl) hr
          | some x=>rw [hl] at h1; simpa using h1
theorem whole_len (b : Bs) : (whole b).length ≤ b.length + 1:=by
  rcases whole_eq b with h | h <;> rw [h.1] <;> simp
theorem put_len {l : List Bs} {n : Nat} (h : (put l).length ≤ n) : l.length ≤ n:=by
  induction l generalizing n with
  | nil=>simp
  | cons s r ih =>
    simp only [put,List.length_append,List.length_cons] at h ⊢
    have:=ih (n:=n - 1) (by omega)
    omega
def cutNl (b : Bs) : Bs × Bs × Bool:=(b.takeWhile (· != 10),(b.dropWhile (· != 10)).tail,b.contains 10)
theorem cutNl_no {b : Bs} (h : (10 : UInt8) ∉ b) : cutNl b = (b,[],false):=by
  have h1 : b.takeWhile (· != 10) = b:=by
    have:=List.takeWhile_append_of_pos (p:=(· != (10 : UInt8))) (l₁:=b) (l₂:=[]) (fun x hx=>by
      have : x ≠ 10:=fun e=>h (e ▸ hx)
      simpa using this)
    simpa using this
  have h2 : b.dropWhile (· != 10) = []:=by
    have:=List.takeWhile_append_dropWhile (p:=(· != (10 : UInt8))) (l:=b)
    rw [h1] at this
    simpa using this
  unfold cutNl
  rw [h1,h2]
  simpa using h
theorem cutNl_nl {a : Bs} (h : (10 : UInt8) ∉ a) (r : Bs) : cutNl (a ++ 10 :: r) = (a,r,true):=by
  have hp : ∀ x ∈ a,(x != 10) = true:=fun x hx=>by
    have : x ≠ 10:=fun e=>h (e ▸ hx)
    simpa using this
  unfold cutNl
  rw [List.takeWhile_append_of_pos hp,List.dropWhile_append_of_pos hp]
  simp
theorem linesOf_cut {b : Bs} (h : b ≠ []) : linesOf b = (cutNl b).1 :: linesOf (cutNl b).2.1:=by
  rcases nl_cases b with h1 | ⟨a,r,rfl,ha⟩
  · rw [cutNl_no h1,linesOf_no h1 h]; rfl
  · rw [cutNl_nl ha,linesOf_nl ha]
theorem cut_len {b : Bs} (h : b ≠ []) : (cutNl b).2.1.length < b.length ∧ (cutNl b).1.length ≤ b.length:=by
  rcases nl_cases b with h1 | ⟨a,r,rfl,ha⟩
  · rw [cutNl_no h1]
    exact ⟨by simpa using List.length_pos_iff.2 h,Nat.le_refl _⟩
  · rw [cutNl_nl ha]
    simp; omega
def part (l : List Bs) (n k : Nat) : List Bs:=(l.take ((k + 1) * l.length / n)).drop (k * l.length / n)
def splitLines (l : List Bs) (n : Nat) : List Bs:=(List.range n).map fun k=>put (part l n k)
end Gp
end PartP1
section PartP2
namespace Gp
structure Cmd where
  kind : Int
  word : Bs
  n : Int
  deriving DecidableEq
structure LineS where
  frm : List Bs
  cmds : List Cmd
  to : Bs
  deriving DecidableEq
structure Port where
  node : Int
  out : Int
  deriving DecidableEq
structure Node where
  kind : Int
  file : Bs
  c : Cmd
  how : Int
  wide : Int
  ins : List Port
  deriving DecidableEq
def wordByte (c : UInt8) : Bool:=(decide (97 ≤ c.toNat) && decide (c.toNat ≤ 122)) || (decide (48 ≤ c.toNat) && decide (c.toNat ≤ 57))
def isWord (s : Bs) : Bool:=decide (s ≠ []) && decide (s.length ≤ 12) && s.all wordByte
def useWord (c : Cmd) : Bool:=decide (c.kind = 1) || decide (c.kind = 2) || decide (c.kind = 3)
def useN (c : Cmd) : Bool:=decide (c.kind = 4) || decide (c.kind = 9) || decide (c.kind = 10)
def checkCmd (c : Cmd) : Int :=
  if c.kind < 1 ∨ 10 < c.kind then 4
  else if (useWord c = false ∧ c.word ≠ []) ∨ (useN c = false ∧ c.n ≠ 0) then 4
  else if useN c = true ∧ (c.n < 1 ∨ 1000 < c.n) then 3
  else if (useWord c = true ∧ isWord c.word = false) ∨ (c.kind = 3 ∧ c.word.length ≠ 2) then 1
  else 0
def firstBad : List Cmd → Int
  | []=>0
  | c :: r=>if checkCmd c = 0 then firstBad r else checkCmd c
def checkLine (l : LineS) : Int :=
  if l.frm.length = 0 ∨ 4 < l.frm.length ∨ 6 < l.cmds.length then 2
  else if (l.frm ++ [l.to]).all isWord = false then 1
  else firstBad l.cmds
def each (c : Cmd) : Bool:=decide (1 ≤ c.kind) && decide (c.kind ≤ 5)
def howFor (c : Cmd) : Int:=if c.kind = 6 then 2 else if c.kind = 8 then 3 else if c.kind = 7 ∨ c.kind = 9 ∨ c.kind = 10 then 4 else 1
theorem firstBad_at : ∀ {l : List Cmd},firstBad l = 0 → ∀ c ∈ l,checkCmd c = 0
  | [],h,c,hc=>by cases hc
  | c :: r,h,x,hx=>by
    unfold firstBad at h
    split at h
    · rename_i h1
      rcases List.mem_cons.1 hx with rfl | hx
      · exact h1
      · exact firstBad_at h x hx
    · rename_i h1; exact absurd h h1
def zCmd : Cmd:=⟨0,[],0⟩
def srcN (f : Bs) : Node:=⟨1,f,zCmd,0,0,[]⟩
def splitN (w : Int) (ins : List Port) : Node:=⟨2,[],zCmd,0,w,ins⟩
def workN (c : Cmd) (ins : List Port) : Node:=⟨3,[],c,0,0,ins⟩
def joinN (how : Int) (c : Cmd) (ins : List Port) : Node:=⟨4,[],c,how,0,ins⟩
structure Desk where
  nodes : List Node
  cur : List Port
def Desk.src (d : Desk) (f : Bs) : Desk:=⟨d.nodes ++ [srcN f],d.cur ++ [⟨d.nodes.length,0⟩]⟩
def Desk.behind (d : Desk) : Desk:=if 1 < d.cur.length then ⟨d.nodes ++ [joinN 1 zCmd d.cur],[⟨d.nodes.length,0⟩]⟩ else d
def ports (i : Int) (n : Nat) : List Port:=(List.range n).map fun (k : Nat)=>⟨i,(k : Int)⟩
def outs (i : Int) (n : Nat) : List Port:=(List.range n).map fun (k : Nat)=>⟨i + (k : Int),0⟩
def Desk.wide (d : Desk) (n : Int) : Desk:=if 1 < d.cur.length ∨ n = 1 then d else ⟨d.nodes ++ [splitN n d.cur],ports d.nodes.length n.toNat⟩
def Desk.work (d : Desk) (c : Cmd) : Desk:=⟨d.nodes ++ d.cur.map fun p=>workN c [p],outs d.nodes.length d.cur.length⟩
def Desk.fin (d : Desk) (c : Cmd) : Desk:=⟨d.nodes ++ [joinN (howFor c) (if howFor c = 4 then c else zCmd) d.cur],[⟨d.nodes.length,0⟩]⟩
def Desk.step (wide : Int) (d : Desk) (c : Cmd) : Desk:=if each c = true ∨ wide = 1 then (d.wide wide).work c else ((d.wide wide).work c).fin c
theorem ports_len (i : Int) (n : Nat) : (ports i n).length = n:=by simp [ports]
end Gp
end PartP2
section PartEnc
namespace Gv
open Go Gp
def idxB (l : List UInt8) (c : UInt8) : Int:=Lib.indexByte l c
def cmdV (c : Cmd) : V:=.agg [.int .i64 c.kind,.str c.word,.int .i64 c.n]
noncomputable def lineV (l : LineS) : V:=.agg [.sl strV l.frm,.sl cmdV l.cmds,.str l.to]
structure PipeS where
  b : List UInt8
  room : Int
  closed : Bool
  shut : Bool
structure FileS where
  name : Bs
  b : Bs
  deriving DecidableEq
def fileV (f : FileS) : V:=.agg [.str f.name,.sl byteV f.b]
end Gv
end PartEnc
section PartAd
namespace Gv
open Go Go.RowKit Gw Gp
variable [Glob]
abbrev ba (s : Bs) : ByteArray:=⟨s.toArray⟩
theorem ba_size (s : Bs) : (ba s).size = s.length:=by simp [ba,ByteArray.size]
theorem vr_str {m : Mem} {q : Loc} {s : Bs} {u : Value} (h : VR m q (.str s) u) : u = Gw.str s ∧ s.length ≤ MAXL:=by
  cases h with | str h=>exact ⟨rfl,h⟩
theorem strs_new {w w' : World} {m : Mem} {l : List Bs} {T : TypeId} (hb : w'.heap[w.heap.size]? = some (.cells (l.map Gw.str).toArray T)) (hl : l.length ≤ MAXL) (hx : ∀ x ∈ l, x.length ≤ MAXL) :
    VR (grow m w w') noLoc (.sl strV l) (.slice (some ⟨w.heap.size,0,none⟩) l.length l.length):=by
  have hc : ∀ j x,l[j]? = some x → ((l.map Gw.str).toArray)[0 + j * 1 + 0]? = some (Gw.str x):=fun j x hx=>by
    rw [show 0 + j * 1 + 0 = j by omega,List.getElem?_toArray,List.getElem?_map,hx]; rfl
  refine .sl (k:=1) (off:=0) (fun i j=>Gw.str (l.getD i [])) (Nat.le_refl _) hl (show grow m w w' _ = _ by unfold grow; rw [if_neg (by omega)]; exact hb) (fun i h=>rfl) (fun i h j v e=>?_) (fun i h j v e=>?_)
  · have hj : j = 0 := by
      rcases Nat.eq_zero_or_pos j with h | h
      · exact h
      · rw [List.getElem?_eq_none (by simp [strV,V.cells]; omega)] at e; cases e
    subst hj
    refine ⟨?_,rfl⟩
    rw [hc i l[i] (List.getElem?_eq_getElem h)]
    simp [h]
  · have hj : j = 0 := by
      rcases Nat.eq_zero_or_pos j with h | h
      · exact h
      · rw [List.getElem?_eq_none (by simp [strV,V.cells]; omega)] at e; cases e
    subst hj
    obtain rfl : V.str l[i] = v:=by simpa [strV,V.cells] using e
    have : l.getD i [] = l[i]:=by simp [h]
    rw [this]
    exact .str (hx _ (List.getElem_mem h))
theorem splitK_le (sep : Bs) : ∀ (k : Nat) (s : Bs),∀ x ∈ Lib.splitK sep 0 k s,x.length ≤ s.length
  | 0,s,x,hx=>by simp [Lib.splitK] at hx; subst hx; exact Nat.le_refl _
  | k + 1,s,x,hx=>by
    unfold Lib.splitK at hx
    split at hx
    · simp at hx; subst hx; exact Nat.le_refl _
    · rcases List.mem_cons.1 hx with rfl | hx
      · simp; omega
      · have:=splitK_le sep k _ x hx
        simp at this; omega
theorem split_len (s sep : Bs) (h : 1 ≤ sep.length) : (Lib.split s sep).length = Lib.count s sep + 1:=by
  have h1:=Lib.splitB_all (ba sep) (by rw [ba_size]; exact h) 0 (Lib.count s sep) (ba s) rfl
  have e:=congrArg List.length (Lib.splitB_data (ba sep) 0 (Lib.count s sep) (ba s))
  rw [List.length_map,h1] at e
  exact e.symm
theorem split_cells (s sep : Bs) : List.map Value.string (Lib.splitB (ba sep) 0 (Lib.countB (ba s) (ba sep)) (ba s)) = (Lib.split s sep).map Gw.str:=by
  have e:=Lib.splitB_data (ba sep) 0 (Lib.countB (ba s) (ba sep)) (ba s)
  have e2 : Lib.split s sep = (Lib.splitB (ba sep) 0 (Lib.countB (ba s) (ba sep)) (ba s)).map (·.data.toList):=e.symm
  rw [e2,List.map_map]
  refine List.map_congr_left fun x hx=>?_
  show Value.string x = Value.string ⟨x.data.toList.toArray⟩
  simp
end Gv
end PartAd
section PartAd2
namespace Gv
open Go Go.RowKit Gw Gp
variable [Glob]
section
variable {w0 : Start} {w w' : World} {m0 R m : Mem} {q : Loc}
theorem put_heap (w : World) {blk off : Nat} (d : Array Bs) {arr : Array Value} {T : TypeId} {fz : Nat × Nat} (h : w.heap[blk]? = some (.cells arr T fz)) (k : Nat) :
    (Go.Sort.putRow Go.Proofs.encStr w blk off d).heap[k]? = if k = blk then some (.cells (Go.Sort.putCells Go.Proofs.encStr off d arr) T fz) else w.heap[k]?:=by
  simp only [Go.Sort.putRow,Go.Sort.mapBlock,Array.getElem?_modify]
  by_cases e : blk = k
  · subst e; simp [h,Go.Sort.onCells]
  · rw [if_neg e,if_neg (fun h=>e h.symm)]
theorem sorted_world {w w' : World} {n blk : Nat} {d : Array Bs} {os : Array Obj} {arr : Array Value} {T : TypeId} {fz : Nat × Nat} (h : w.heap[blk]? = some (.cells arr T fz)) (hw : w' = Go.Sort.grow (Go.Sort.putRow Go.Proofs.encStr (Go.Sort.ahead w n) blk 0 d) os) :
    Bel [blk] w w' ∧ w'.heap[blk]? = some (.cells (Go.Sort.putCells Go.Proofs.encStr 0 d arr) T fz):=by
  have hp:=put_heap (Go.Sort.ahead w n) (blk:=blk) (off:=0) d (arr:=arr) (T:=T) (fz:=fz) h
  have hs : (Go.Sort.putRow Go.Proofs.encStr (Go.Sort.ahead w n) blk 0 d).heap.size = w.heap.size:=by rw [Go.Sort.size_putRow]; rfl
  have hb:=lt_of_heap h
  have hg : ∀ k,k < w.heap.size → w'.heap[k]? = (Go.Sort.putRow Go.Proofs.encStr (Go.Sort.ahead w n) blk 0 d).heap[k]?:=fun k hk=>by
    rw [hw]
    exact Go.Sort.heap_grow_old _ _ (by rw [hs]; exact hk)
  refine ⟨⟨by rw [hw]; rfl,by rw [hw]; rfl,by rw [hw]; rfl,?_,fun k hk hx=>?_⟩,?_⟩
  · rw [hw,Go.Sort.size_grow,hs]; omega
  · rw [hg k hk,hp,if_neg (by simpa using hx)]
    rfl
  · rw [hg blk hb,hp,if_pos rfl]
theorem els_put {l l' : List Bs} {arr : Array Value} {cap : Nat} (ha : arr.size = cap * 1) (hl : l'.length ≤ cap) (hx : ∀ x ∈ l',x.length ≤ MAXL) : ElsR m 1 (l'.map strV) (Go.Sort.putCells Go.Proofs.encStr 0 l'.toArray arr):=fun i x hi=>by
  rw [List.getElem?_map] at hi
  obtain ⟨c,hc,rfl⟩:=Option.map_eq_some_iff.1 hi
  have hlt:=(List.getElem?_eq_some_iff.1 hc).1
  refine ⟨rfl,fun j v e=>?_⟩
  have hj : j = 0:=by
    rcases Nat.eq_zero_or_pos j with h | h
    · exact h
    · rw [List.getElem?_eq_none (by simp [strV,V.cells]; omega)] at e; cases e
  subst hj
  obtain rfl : V.str c = v:=by simpa [strV,V.cells] using e
  refine ⟨Gw.str c,?_,rfl,.str (hx c (List.mem_of_getElem? hc))⟩
  unfold Go.Sort.putCells
  have h1 : i < arr.size:=by omega
  have h2 : i * 1 + 0 = i:=by omega
  rw [h2,Array.getElem?_mapIdx,Array.getElem?_eq_getElem h1]
  simp only [Option.map_some]
  have h3 : 0 ≤ i ∧ i < 0 + l'.toArray.size:=by simp; omega
  rw [if_pos h3]
  have h4 : l'.toArray[i - 0]! = c:=by
    rw [Nat.sub_zero,getElem!_pos _ _ (by simpa using hlt)]
    simpa using (List.getElem?_eq_some_iff.1 hc).2
  rw [h4]
  rfl
theorem putCells_size {d : Array Bs} {arr : Array Value} : (Go.Sort.putCells Go.Proofs.encStr 0 d arr).size = arr.size:=by simp [Go.Sort.putCells]
theorem own_strs {l : List Bs} {u : Value} (C : Cf w0 m0 [.row 1 (l.map strV)] R m q w) (hv : VR m q (.own 0) u) : (u = .slice none 0 0 ∧ l = []) ∨
    ∃ b cap arr T fz,u = .slice (some ⟨b,0,none⟩) l.length cap ∧ l.length ≤ cap ∧ cap ≤ MAXL ∧ q 0 = some (some b,l.length,cap,1) ∧ R b = some (.cells arr T fz) ∧ arr.size = cap * 1 ∧ noFz arr.size fz ∧ Go.Sort.Holds Go.Proofs.encStr w b 0 l.toArray ∧ (∀ x ∈ l,x.length ≤ MAXL):=by
  obtain ⟨ob,cap,h1,h2,h3,h4,h5⟩:=C.rok.row 0 _ rfl
  simp only [List.length_map] at h1 h2
  cases hv with
  | own hq =>
    rw [h1] at hq; cases hq
    cases ob with
    | none =>
      left
      have:=h4 rfl
      subst this
      obtain rfl : l = []:=List.length_eq_zero_iff.1 (by omega)
      exact ⟨rfl,rfl⟩
    | some b =>
      right
      obtain ⟨arr,T,fz,g1,g2,g3,g4⟩:=h5 b rfl
      have hx : ∀ (i : Nat) (hi : i < l.length),arr[i]? = some (Gw.str l[i]) ∧ l[i].length ≤ MAXL:=fun i hi=>by
        obtain ⟨u,e1,-,e3⟩:=(g3 i (strV l[i]) (by simp [hi])).2 0 (strV l[i]) (by simp [strV,V.cells])
        have:=vr_str e3
        rw [show i * 1 + 0 = i by omega] at e1
        rw [e1,this.1]
        exact ⟨rfl,this.2⟩
      refine ⟨b,cap,arr,T,fz,rfl,h2,h3,h1,g1,g2,g4.1,fun j hj=>?_,fun x hx'=>?_⟩
      · have hj' : j < l.length:=by simpa using hj
        have hb:=(C.sit.own _ _ g1).2.1
        have e:=(hx j hj').1
        have hlt:=(Array.getElem?_eq_some_iff.1 e).1
        refine ⟨?_,?_⟩
        · simp only [World.cell?,hb,Option.isSome_none,Bool.false_eq_true,if_false,Nat.zero_add]
          rw [e]
          congr 1
          rw [getElem!_pos _ _ (by simpa using hj')]
          simp
          rfl
        · simp only [World.frozen?,hb,Nat.zero_add]
          have:=g4.1 j hlt
          simpa using this
      · obtain ⟨i,hi,rfl⟩:=List.getElem_of_mem hx'
        exact (hx i hi).2
theorem Cf.strs_put {l l' : List Bs} {b cap : Nat} {arr : Array Value} {T : TypeId} {fz : Nat × Nat} (C : Cf w0 m0 [.row 1 (l.map strV)] R m q w) (hq : q 0 = some (some b, l.length, cap, 1)) (hR : R b = some (.cells arr T fz)) (ha : arr.size = cap * 1) (hz : noFz arr.size fz) (hcap : cap ≤ MAXL)
    (hlc : l.length ≤ cap) (hl : l'.length = l.length) (hx : ∀ x ∈ l',x.length ≤ MAXL) (hb : Bel [b] w w') (hh : w'.heap[b]? = some (.cells (Go.Sort.putCells Go.Proofs.encStr 0 l'.toArray arr) T fz)) :
    Cf w0 m0 [.row 1 (l'.map strV)] (R.put b (.cells (Go.Sort.putCells Go.Proofs.encStr 0 l'.toArray arr) T fz)) m q w':=by
  have:=C.store (r:=0) (x:=.row 1 (l.map strV)) (y:=.row 1 (l'.map strV)) rfl rfl hq hR hb hh ?_
  · exact this
  refine ⟨some b,cap,by simpa [hl] using hq,by simpa [hl] using hlc,hcap,(fun h=>by cases h),fun b' e=>?_⟩
  cases e
  exact ⟨_,T,fz,by simp [Mem.put],by rw [putCells_size]; exact ha,els_put (l:=l) ha (by omega) hx,noFk1 (by rw [putCells_size]; exact hz)⟩
end
def sortB (l : List Bs) : List Bs:=l.mergeSort fun x y=>decide (x ≤ y)
omit [Glob] in
theorem sortB_perm (l : List Bs) : (sortB l).Perm l:=List.mergeSort_perm l _
omit [Glob] in
theorem sortB_len (l : List Bs) : (sortB l).length = l.length:=List.length_mergeSort l
def onceB (l : List Bs) : List Bs:=Lib.compact l
omit [Glob] in
theorem onceB_sub (l : List Bs) : ∀ x ∈ onceB l,x ∈ l:=fun x hx=>by
  unfold onceB Lib.compact Lib.compactUpTo at hx
  obtain ⟨i,hi,rfl⟩:=List.mem_map.1 hx
  have hi2:=(List.mem_filter.1 hi).1
  have hlt : i < l.length:=by simpa using hi2
  rw [getElem!_pos _ _ (by simpa using hlt)]
  simp
omit [Glob] in
theorem onceB_len (l : List Bs) : (onceB l).length ≤ l.length:=by
  unfold onceB Lib.compact Lib.compactUpTo
  rw [List.length_map]
  refine Nat.le_trans (List.length_filter_le _ _) ?_
  simp
theorem vrl_one {m : Mem} {q : Loc} {v : V} {us : List Value} (h : VRL m q [v] us) : ∃ u,us = [u] ∧ VR m q v u:=by
  have hl:=h.len
  match us,hl with
  | [u],_=>exact ⟨u,rfl,h.el 0 v u rfl rfl⟩
end Gv
end PartAd2
section PartP3
namespace Gv
open Go Gp
theorem idx_one (a : UInt8) : ∀ s : Bs,(Lib.index s [a] = -1 ∧ a ∉ s) ∨ ∃ p r,s = p ++ a :: r ∧ a ∉ p ∧ Lib.index s [a] = (p.length : Int)
  | []=>.inl ⟨rfl,by simp⟩
  | b :: l=>by
    unfold Lib.index
    have e : [a].isPrefixOf (b :: l) = (a == b):=by simp [List.isPrefixOf]
    rw [e]
    by_cases h : a = b
    · subst h
      right
      exact ⟨[],l,rfl,by simp,by simp⟩
    · have hb : (a == b) = false:=by simpa using h
      rw [hb]
      rcases idx_one a l with ⟨h1,h2⟩ | ⟨p,r,rfl,h2,h3⟩
      · left
        refine ⟨?_,by simp [h,h2]⟩
        rw [h1]; rfl
      · right
        refine ⟨b :: p,r,rfl,by simp [h,h2],?_⟩
        rw [h3]
        have : ((p.length : Int) == -1) = false:=by simp
        simp only [this,Bool.false_eq_true,if_false,List.length_cons]
        omega
theorem splitK_sz (sep : Bs) : ∀ (k : Nat) (s : Bs),∀ x ∈ Lib.splitK sep 0 k s,x.length ≤ s.length
  | 0,s,x,hx=>by simp [Lib.splitK] at hx; subst hx; exact Nat.le_refl _
  | k + 1,s,x,hx=>by
    unfold Lib.splitK at hx
    split at hx
    · simp at hx; subst hx; exact Nat.le_refl _
    · rcases List.mem_cons.1 hx with rfl | hx
      · simp; omega
      · have:=splitK_sz sep k _ x hx
        simp at this; omega
theorem split_ne (s sep : Bs) : Lib.split s sep ≠ []:=by
  unfold Lib.split
  generalize Lib.count s sep = k
  cases k with
  | zero=>simp [Lib.splitK]
  | succ k=>unfold Lib.splitK; split <;> simp
theorem replace_one (a b : UInt8) : ∀ s : Bs,Lib.replaceAll s [a] [b] = s.map fun c=>if c = a then b else c:=by
  have key : ∀ (k : Nat) (s : Bs),s.count a = k → Lib.replaceK [a] [b] k s = s.map fun c=>if c = a then b else c:=by
    intro k
    induction k with
    | zero =>
      intro s h
      have hn : a ∉ s:=List.count_eq_zero.1 h
      unfold Lib.replaceK
      have : s.map (fun c=>if c = a then b else c) = s.map id:=List.map_congr_left fun c hc=>by
        rw [if_neg (fun e=>hn (by rw [← e]; exact hc))]; rfl
      rw [this,List.map_id]
    | succ k ih =>
      intro s h
      rcases idx_one a s with ⟨-,h2⟩ | ⟨p,r,rfl,h2,h3⟩
      · rw [List.count_eq_zero.2 h2] at h; cases h
      · have hr : r.count a = k := by
          rw [List.count_append,List.count_eq_zero.2 h2] at h
          simp at h
          exact h
        rw [Lib.replaceK_hit _ _ _ _ _ h3,List.take_left,List.length_singleton,← List.drop_drop,List.drop_left]
        simp only [List.drop_succ_cons,List.drop_zero,List.map_append,List.map_cons,if_true]
        rw [ih r hr]
        have : p.map (fun c=>if c = a then b else c) = p.map id:=List.map_congr_left fun c hc=>by
          rw [if_neg (fun e=>h2 (by rw [← e]; exact hc))]; rfl
        rw [this,List.map_id]
        simp
  intro s
  unfold Lib.replaceAll Lib.replace
  by_cases h : a = b
  · subst h
    have : s.map (fun c=>if c = a then a else c) = s.map id:=List.map_congr_left fun c hc=>by
      by_cases e : c = a
      · rw [if_pos e,e]; rfl
      · rw [if_neg e]; rfl
    rw [this,List.map_id]
    simp
  · have h1 : (([a] : Bs) == [b]) = false:=by simpa using h
    rw [h1]
    simp only [Bool.false_eq_true,if_false]
    have h2 : Lib.replaceNum s [a] (-1) = s.count a:=by
      unfold Lib.replaceNum
      rw [if_pos (by omega),Lib.count_one]
    rw [h2]
    exact key _ s rfl
def oneC (c : Cmd) (s : Bs) : Bs × Bool :=
  if c.kind = 1 then (s,Lib.contains s c.word) else if c.kind = 2 then (s,!Lib.contains s c.word)
  else if c.kind = 3 then (Lib.replaceAll s (c.word.take 1) (c.word.drop 1),true)
  else if c.kind = 4 then (if ((Lib.split s [32]).length : Int) < c.n then [] else (Lib.split s [32]).getD (c.n - 1).toNat [],true)
  else (s.reverse,true)
def outC (c : Cmd) (s : Bs) : Option Bs:=match oneC c s with | (t,true)=>some t | (_,false)=>none
def linesC (c : Cmd) (l : List Bs) : List Bs :=
  if c.kind = 6 then sortB l else if c.kind = 7 then onceB l else if c.kind = 8 then [Lib.itoa l.length]
  else if c.kind = 9 then l.take c.n.toNat else if c.kind = 10 then l.drop (l.length - c.n.toNat) else l.filterMap (outC c)
theorem word2 {c : Cmd} (h : checkCmd c = 0) (h3 : c.kind = 3) : ∃ a b,c.word = [a,b]:=by
  have : c.word.length = 2:=by
    unfold checkCmd at h
    repeat' split at h
    all_goals first | (cases h; done) | grind
  match hw : c.word,this with
  | [a,b],_=>exact ⟨a,b,rfl⟩
theorem one_len {c : Cmd} (h : checkCmd c = 0) (s : Bs) : (oneC c s).1.length ≤ s.length:=by
  unfold oneC
  split
  · exact Nat.le_refl _
  split
  · exact Nat.le_refl _
  split
  · rename_i h3
    obtain ⟨a,b,e⟩:=word2 h h3
    rw [e]
    show (Lib.replaceAll s [a] [b]).length ≤ _
    rw [replace_one]
    simp
  split
  · dsimp only
    split
    · simp
    · rename_i h4 h5
      by_cases hi : (c.n - 1).toNat < (Lib.split s [32]).length
      · have e : (Lib.split s [32]).getD (c.n - 1).toNat [] = (Lib.split s [32])[(c.n - 1).toNat]:=by rw [List.getD_eq_getElem?_getD,List.getElem?_eq_getElem hi]; rfl
        rw [e]
        exact splitK_sz [32] _ s _ (List.getElem_mem hi)
      · have e : (Lib.split s [32]).getD (c.n - 1).toNat [] = []:=by rw [List.getD_eq_getElem?_getD,List.getElem?_eq_none (by omega)]; rfl
        rw [e]
        simp
  · simp
theorem put_sum : ∀ l : List Bs,(put l).length = (l.map fun s=>s.length + 1).sum
  | []=>rfl
  | s :: r=>by
    unfold put
    simp [put_sum r]
    omega
theorem put_perm {l l' : List Bs} (h : l.Perm l') : (put l).length = (put l').length:=by
  rw [put_sum,put_sum]
  exact (h.map _).sum_nat
theorem put_sub {l l' : List Bs} (h : l.Sublist l') : (put l).length ≤ (put l').length:=by
  induction h with
  | slnil=>exact Nat.le_refl _
  | cons a h ih=>simp only [put,List.length_append,List.length_cons]; omega
  | cons_cons a h ih=>simp only [put,List.length_append,List.length_cons]; omega
theorem out_len {c : Cmd} (h : checkCmd c = 0) {s t : Bs} (ht : outC c s = some t) : t.length ≤ s.length:=by
  have h1:=one_len h s
  unfold outC at ht
  split at ht
  · rename_i u hu
    rw [hu] at h1
    cases ht
    exact h1
  · cases ht
theorem put_filterMap {c : Cmd} (h : checkCmd c = 0) : ∀ l : List Bs,(put (l.filterMap (outC c))).length ≤ (put l).length
  | []=>Nat.le_refl _
  | s :: r=>by
    have ih:=put_filterMap h r
    rw [List.filterMap_cons]
    split
    · simp only [put,List.length_append,List.length_cons]
      omega
    · rename_i t ht
      have:=out_len h ht
      simp only [put,List.length_append,List.length_cons]
      omega
theorem itoa_len (n : Int) (h : -9223372036854775808 ≤ n ∧ n ≤ 9223372036854775807) : (Lib.itoa n).length ≤ 24:=by
  unfold Lib.itoa
  split
  · have:=Lib.nDigits_le20 n.natAbs (by omega)
    simp only [List.length_cons,Lib.decDigits_length]
    omega
  · have:=Lib.nDigits_le20 n.toNat (by omega)
    rw [Lib.decDigits_length]
    omega
theorem onceB_sublist (l : List Bs) : (onceB l).Sublist l:=by
  unfold onceB Lib.compact Lib.compactUpTo
  have e : l = (List.range l.length).map fun i=>l.toArray[i]!:=by
    refine List.ext_getElem (by simp) fun i h1 h2=>?_
    simp [h1]
  refine (List.filter_sublist.map _).trans ?_
  rw [← e]
  exact List.Sublist.refl _
theorem linesC_put {c : Cmd} (h : checkCmd c = 0) (l : List Bs) (hl : l.length ≤ 100000) : (put (linesC c l)).length ≤ (put l).length + 30:=by
  unfold linesC
  split
  · rw [put_perm (sortB_perm l)]; omega
  split
  · have:=put_sub (onceB_sublist l); omega
  split
  · have:=itoa_len l.length ⟨by omega,by omega⟩
    simp only [put,List.length_append,List.length_cons,List.length_nil]
    omega
  split
  · have:=put_sub (List.take_sublist c.n.toNat l); omega
  split
  · have:=put_sub (List.drop_sublist (l.length - c.n.toNat) l); omega
  · have:=put_filterMap h l; omega
theorem sortB_of {l l' : List Bs} (hp : l.Perm l') (hs : l'.Pairwise (· ≤ ·)) : sortB l = l':=by
  have tr : ∀ a b c : Bs,decide (a ≤ b) = true → decide (b ≤ c) = true → decide (a ≤ c) = true:=fun a b c h1 h2=>by
    simp only [decide_eq_true_eq] at *
    exact List.le_trans h1 h2
  have tot : ∀ a b : Bs,(decide (a ≤ b) || decide (b ≤ a)) = true:=fun a b=>by
    simp only [Bool.or_eq_true,decide_eq_true_eq]
    exact List.le_total a b
  have h1:=List.pairwise_mergeSort tr tot l
  refine List.Perm.eq_of_pairwise (le:=fun a b : Bs=>a ≤ b) ?_ (h1.imp fun h=>by simpa using h) hs ((sortB_perm l).trans hp)
  intro a b _ _ h1 h2
  exact List.le_antisymm h1 h2
end Gv
end PartP3
section PartP4
namespace Gv
open Go Gp
theorem less_eq (a b : Bs) : Op.bytesLess a b = decide (a < b):=Go.Proofs.bytesLess_eq a b
theorem noNl_perm {l l' : List Bs} (h : l.Perm l') (hn : NoNl l') : NoNl l:=fun s hs=>hn s (h.mem_iff.1 hs)
theorem noNl_sub {l l' : List Bs} (h : l.Sublist l') (hn : NoNl l') : NoNl l:=fun s hs=>hn s (h.subset hs)
theorem put_lines (b : Bs) : (put (linesOf b)).length ≤ b.length + 1:=whole_len b
theorem at_eq (k n : Int) (h : 1 ≤ n) : (if k.tmod n < 0 then k.tmod n + n else k.tmod n) = k % n:=by
  have h1:=Int.tmod_lt_of_pos k (show 0 < n by omega)
  have e:=Int.tmod_add_mul_tdiv k n
  have e2 : k % n = k.tmod n % n:=by
    conv=>lhs; rw [← e]
    rw [Int.add_mul_emod_self_left]
  have h2 : -n < k.tmod n:=Int.lt_tmod_of_pos k (show 0 < n by omega)
  rw [e2]
  split
  · have e3 : (k.tmod n + n) % n = k.tmod n % n:=Int.add_emod_right _ _
    rw [← e3,Int.emod_eq_of_lt (by omega) (by omega)]
  · rw [Int.emod_eq_of_lt (by omega) h1]
end Gv
end PartP4
section PartP5
namespace Gv
open Go Gp
theorem word_no10 {c : Cmd} (h : checkCmd c = 0) (hu : useWord c = true) : ∀ z ∈ c.word,z ≠ 10:=by
  have hw : isWord c.word = true:=by
    unfold checkCmd at h
    grind
  intro z hz e
  unfold isWord at hw
  simp only [Bool.and_eq_true,List.all_eq_true] at hw
  have:=hw.2 z hz
  subst e
  revert this
  decide
theorem split_mem (sep : Bs) : ∀ (k : Nat) (s : Bs),∀ x ∈ Lib.splitK sep 0 k s,∀ z ∈ x,z ∈ s
  | 0,s,x,hx,z,hz=>by simp [Lib.splitK] at hx; subst hx; exact hz
  | k + 1,s,x,hx,z,hz=>by
    unfold Lib.splitK at hx
    split at hx
    · simp at hx; subst hx; exact hz
    · rcases List.mem_cons.1 hx with rfl | hx
      · exact List.mem_of_mem_take hz
      · exact List.mem_of_mem_drop (split_mem sep k _ x hx z hz)
theorem outC_no10 {c : Cmd} (h : checkCmd c = 0) {s t : Bs} (ht : outC c s = some t) (hs : (10 : UInt8) ∉ s) : (10 : UInt8) ∉ t:=by
  have e : t = (oneC c s).1:=by
    unfold outC at ht
    split at ht
    · rename_i u hu
      rw [hu]
      exact (Option.some.inj ht).symm
    · cases ht
  subst e
  unfold oneC
  split
  · exact hs
  split
  · exact hs
  split
  · rename_i h3
    obtain ⟨a,b,hw⟩:=word2 h h3
    have hb:=word_no10 h (by unfold useWord; rw [h3]; rfl) b (by rw [hw]; simp)
    rw [hw]
    show (10 : UInt8) ∉ Lib.replaceAll s [a] [b]
    rw [replace_one]
    intro hm
    obtain ⟨z,hz,e⟩:=List.mem_map.1 hm
    split at e
    · exact hb e
    · exact hs (e ▸ hz)
  split
  · dsimp only
    split
    · simp
    · intro hm
      by_cases hi : (c.n - 1).toNat < (Lib.split s [32]).length
      · rw [List.getD_eq_getElem?_getD,List.getElem?_eq_getElem hi] at hm
        exact hs (split_mem [32] _ s _ (List.getElem_mem hi) 10 hm)
      · rw [List.getD_eq_getElem?_getD,List.getElem?_eq_none (by omega)] at hm
        simp at hm
  · simpa using hs
theorem linesC_noNl {c : Cmd} (h : checkCmd c = 0) (h8 : c.kind ≠ 8) {l : List Bs} (hl : NoNl l) : NoNl (linesC c l):=by
  unfold linesC
  split
  · exact noNl_perm (sortB_perm l) hl
  split
  · exact noNl_sub (onceB_sublist l) hl
  split
  · exact noNl_sub (List.take_sublist _ _) hl
  split
  · exact noNl_sub (List.drop_sublist _ _) hl
  · intro t ht
    obtain ⟨s,hs,e⟩:=List.mem_filterMap.1 ht
    exact outC_no10 h e (hl s hs)
end Gv
end PartP5
section PartP7
namespace Gv
open Go Gp
def bestStep (b : Option (Nat × Bs)) (i : Nat) (l : List Bs) : Option (Nat × Bs) :=
  match l with
  | []=>b
  | s :: _=>match b with
    | none=>some (i,s)
    | some (j,t)=>if Op.bytesLess s t = true then some (i,s) else some (j,t)
def best (parts : List (List Bs)) : Nat → Option (Nat × Bs)
  | 0=>none
  | i + 1=>bestStep (best parts i) i (parts.getD i [])
def mergeN : Nat → List (List Bs) → List Bs
  | 0,_=>[]
  | n + 1,parts=>match best parts parts.length with
    | none=>[]
    | some (j,s)=>s :: mergeN n (parts.set j ((parts.getD j []).drop 1))
def mergeB (parts : List (List Bs)) : List Bs:=mergeN parts.flatten.length parts
theorem all_nil {parts : List (List Bs)} (h : ∀ k,k < parts.length → parts.getD k [] = []) : parts.flatten = []:=by
  rw [List.flatten_eq_nil_iff]
  intro x hx
  obtain ⟨k,hk,rfl⟩:=List.getElem_of_mem hx
  have:=h k hk
  rwa [List.getD_eq_getElem?_getD,List.getElem?_eq_getElem hk] at this
def numOf (s : Bs) : Int:=match Lib.atoiAll s with | .ok k=>if 0 ≤ k ∧ k ≤ 4000 ∧ Lib.itoa k = s then k else 0 | _=>0
def numH (l : List Bs) : Int:=match l with | []=>0 | s :: _=>numOf s
def sumN (parts : List (List Bs)) : Nat → Int
  | 0=>0
  | i + 1=>sumN parts i + numH (parts.getD i [])
theorem dec_bytes (u : Nat) : ∀ c ∈ Lib.decDigits u,48 ≤ c.toNat ∧ c.toNat ≤ 57:=by
  induction u using Nat.strongRecOn with
  | _ u ih =>
    rw [Lib.decDigits]
    split
    · intro c hc
      simp at hc
      subst hc
      rw [UInt8.toNat_add,UInt8.toNat_ofNat']
      simp; omega
    · intro c hc
      rcases List.mem_append.1 hc with hc | hc
      · exact ih (u / 10) (by omega) c hc
      · simp at hc
        subst hc
        rw [UInt8.toNat_add,UInt8.toNat_ofNat']
        simp; omega
theorem itoa_no10 (n : Nat) : (10 : UInt8) ∉ Lib.itoa n:=by
  rw [Lib.itoa_nonneg]
  intro h
  have:=dec_bytes n 10 h
  simp at this
end Gv
end PartP7
section PartP8
namespace Gv
open Go Gp
def joinB (how : Int) (c : Cmd) (p : List (List Bs)) : List Bs :=
  if how = 2 then mergeB p else if how = 3 then [Lib.itoa (sumN p p.length)] else if how = 4 then linesC c p.flatten else p.flatten
def checkJoin (how : Int) (c : Cmd) : Int:=if how < 1 ∨ 4 < how then 4 else if how ≠ 4 then (if c ≠ zCmd then 4 else 0) else checkCmd c
theorem kinds {c : Cmd} (h : checkCmd c = 0) : c.kind = 1 ∨ c.kind = 2 ∨ c.kind = 3 ∨ c.kind = 4 ∨ c.kind = 5 ∨ c.kind = 6 ∨ c.kind = 7 ∨ c.kind = 8 ∨ c.kind = 9 ∨ c.kind = 10:=by
  unfold checkCmd at h
  grind
end Gv
end PartP8
section PartP9
namespace Gv
open Go Gp
def notRise (q : Option Bs) (n : Bs) : Bool:=match q with | none=>false | some q=>!Op.bytesLess q n
def filesGo : Option Bs → List FileS → Int
  | _,[]=>0
  | q,f :: r=>if isWord f.name = false then 1 else if 4000 < f.b.length then 2 else if notRise q f.name = true then 6 else filesGo (some f.name) r
def checkFiles (l : List FileS) : Int:=if 12 < l.length then 2 else filesGo none l
def prevN (l : List FileS) (i : Nat) : Option Bs:=if i = 0 then none else some (l.getD (i - 1) ⟨[],[]⟩).name
def notLess (n : Bs) (f : FileS) : Bool:=!Op.bytesLess f.name n
def placeI (l : List FileS) (n : Bs) : Nat:=l.findIdx (notLess n)
def isAt (l : List FileS) (n : Bs) : Bool:=match l[placeI l n]? with | some f=>decide (f.name = n) | none=>false
def fileAt (l : List FileS) (n : Bs) : Bs:=match l[placeI l n]? with | some f=>if f.name = n then f.b else [] | none=>[]
theorem filesGo_at {l : List FileS} {i : Nat} (h : i < l.length) : filesGo (prevN l i) (l.drop i) = if isWord l[i].name = false then 1 else if 4000 < l[i].b.length then 2 else if notRise (prevN l i) l[i].name = true then 6 else filesGo (prevN l (i + 1)) (l.drop (i + 1)):=by
  rw [List.drop_eq_getElem_cons h,filesGo]
  have e : prevN l (i + 1) = some l[i].name:=by
    unfold prevN
    rw [if_neg (by omega),Nat.add_sub_cancel,List.getD_eq_getElem?_getD,List.getElem?_eq_getElem h]
    rfl
  rw [e]
theorem filesGo_ok : ∀ {l : List FileS} {q : Option Bs},filesGo q l = 0 → ∀ f ∈ l,isWord f.name = true ∧ f.b.length ≤ 4000
  | [],q,_,f,hf=>by cases hf
  | g :: r,q,h,f,hf=>by
    rw [filesGo] at h
    split at h
    · cases h
    · rename_i h1
      split at h
      · cases h
      · rename_i h2
        split at h
        · cases h
        · rcases List.mem_cons.1 hf with rfl | hf
          · exact ⟨by simpa using h1,by omega⟩
          · exact filesGo_ok h f hf
theorem checkFiles_ok {l : List FileS} (h : checkFiles l = 0) : l.length ≤ 12 ∧ ∀ f ∈ l,isWord f.name = true ∧ f.b.length ≤ 4000:=by
  unfold checkFiles at h
  split at h
  · cases h
  · exact ⟨by omega,filesGo_ok h⟩
theorem place_at {l : List FileS} {n : Bs} {i : Nat} (h : i < l.length) (h1 : notLess n l[i] = true) (h2 : ∀ j (h : j < l.length),j < i → notLess n l[j] = false) : placeI l n = i:=by
  unfold placeI
  rw [List.findIdx_eq h]
  exact ⟨h1,fun j hj=>h2 j (by omega) hj⟩
theorem place_end {l : List FileS} {n : Bs} (h2 : ∀ j (h : j < l.length),notLess n l[j] = false) : placeI l n = l.length:=by
  unfold placeI
  rw [List.findIdx_eq_length]
  intro x hx
  obtain ⟨j,hj,rfl⟩:=List.getElem_of_mem hx
  exact h2 j hj
theorem place_le (l : List FileS) (n : Bs) : placeI l n ≤ l.length:=List.findIdx_le_length
theorem fileAt_len {l : List FileS} (h : ∀ f ∈ l,f.b.length ≤ 4000) (n : Bs) : (fileAt l n).length ≤ 4000:=by
  unfold fileAt
  split
  · rename_i f hf
    split
    · exact h f (List.mem_of_getElem? hf)
    · simp
  · simp
def gatherGo (l : List FileS) : Bs → List Bs → Bs × Int
  | out,[]=>(out,0)
  | out,s :: r=>if 4000 < out.length + (whole (fileAt l s)).length then ([],2) else gatherGo l (out ++ whole (fileAt l s)) r
def gatherS (l : List FileS) (f : List Bs) : Bs × Int:=if checkFiles l ≠ 0 then ([],checkFiles l) else if 4 < f.length then ([],2) else gatherGo l [] f
theorem gatherGo_len (l : List FileS) : ∀ (f : List Bs) (out : Bs),out.length ≤ 4000 → (gatherGo l out f).1.length ≤ 4000
  | [],out,h=>h
  | s :: r,out,h=>by
    rw [gatherGo]
    split
    · simp
    · refine gatherGo_len l r _ ?_
      rw [List.length_append]; omega
theorem gatherS_len (l : List FileS) (f : List Bs) : (gatherS l f).1.length ≤ 4000:=by
  unfold gatherS
  split
  · simp
  · split
    · simp
    · exact gatherGo_len l f [] (by simp)
def doLines (cs : List Cmd) (s : List Bs) : List Bs:=cs.foldl (fun s c=>linesC c s) s
theorem doLines_take {cs : List Cmd} {s : List Bs} {i : Nat} (h : i < cs.length) : doLines (cs.take (i + 1)) s = linesC cs[i] (doLines (cs.take i) s):=by
  unfold doLines
  rw [List.take_succ_eq_append_getElem h,List.foldl_append]
  rfl
theorem put_el {l : List Bs} {s : Bs} (h : s ∈ l) : s.length ≤ (put l).length:=by
  induction l with
  | nil=>cases h
  | cons x r ih =>
    rw [put,List.length_append,List.length_cons]
    rcases List.mem_cons.1 h with rfl | h
    · omega
    · have:=ih h; omega
theorem doLines_put {cs : List Cmd} (hc : ∀ c ∈ cs,checkCmd c = 0) {s : List Bs} (hs : (put s).length ≤ 10000) (hn : cs.length ≤ 1000) : ∀ i,i ≤ cs.length → (put (doLines (cs.take i) s)).length ≤ (put s).length + 30 * i
  | 0,_=>by simp [doLines]
  | i + 1,hi=>by
    have ih:=doLines_put hc hs hn i (by omega)
    rw [doLines_take (by omega)]
    have h1:=put_len (l:=doLines (cs.take i) s) (n:=100000) (by omega)
    have:=linesC_put (hc cs[i] (List.getElem_mem _)) (doLines (cs.take i) s) h1
    omega
end Gv
end PartP9
section PartP21
namespace Gv
open Go Gp
def putGo (F : List FileS) (n b : Bs) : List FileS:=if isAt F n = true then F.set (placeI F n) ⟨n,b⟩ else F.take (placeI F n) ++ ⟨n,b⟩ :: F.drop (placeI F n)
def putS (F : List FileS) (n b : Bs) : List FileS × Int :=
  if checkFiles F ≠ 0 then ([],checkFiles F) else if isWord n = false then ([],1) else if 4000 < b.length then ([],2) else if isAt F n = false ∧ F.length = 12 then ([],2) else (putGo F n b,0)
theorem isAt_lt {F : List FileS} {n : Bs} (h : isAt F n = true) : ∃ h : placeI F n < F.length,F[placeI F n].name = n:=by
  unfold isAt at h
  cases e : F[placeI F n]? with
  | none=>rw [e] at h; cases h
  | some f =>
    rw [e] at h
    obtain ⟨h1,h2⟩:=List.getElem?_eq_some_iff.1 e
    exact ⟨h1,by rw [h2]; exact of_decide_eq_true h⟩
end Gv
end PartP21
section PartP10
namespace Gv
open Go Gp
theorem linesC_no {c : Cmd} (h : checkCmd c = 0) {l : List Bs} (hl : NoNl l) : NoNl (linesC c l):=by
  by_cases h8 : c.kind = 8
  · have e : linesC c l = [Lib.itoa l.length]:=by unfold linesC; rw [if_neg (by omega),if_neg (by omega),if_pos h8]
    rw [e]
    intro s hs
    simp at hs
    subst hs
    exact itoa_no10 _
  · exact linesC_noNl h h8 hl
end Gv
end PartP10
section PartP11
namespace Gv
open Go Gp
theorem noNl_flat {l : List (List Bs)} (h : ∀ a ∈ l,NoNl a) : NoNl l.flatten:=fun s hs=>by
  obtain ⟨a,ha,hsa⟩:=List.mem_flatten.1 hs
  exact h a ha s hsa
end Gv
end PartP11
section PartP12
namespace Gv
open Go Gp
variable {P : List (List Bs)} {a : List Nat}
end Gv
end PartP12
section PartP13
namespace Gv
open Go Gp
def outsN (n : Gp.Node) : Int:=if n.kind = 2 then n.wide else if n.kind = 5 then 0 else 1
def errN (n : Gp.Node) : Int :=
  if n.kind = 1 ∨ n.kind = 5 then (if isWord n.file = true then 0 else 1)
  else if n.kind = 2 then (if n.wide < 1 ∨ 5 < n.wide then 3 else 0)
  else if n.kind = 3 then checkCmd n.c
  else checkJoin n.how n.c
def insN (n : Gp.Node) : Bool :=
  if n.kind = 1 ∨ n.kind = 5 then (decide ((n.ins.length : Int) = 1) == decide (n.kind = 5)) && decide ((n.ins.length : Int) < 2)
  else if n.kind = 4 then decide ((1 : Int) ≤ (n.ins.length : Int)) && decide ((n.ins.length : Int) ≤ 5)
  else decide ((n.ins.length : Int) = 1)
def wantN (n : Gp.Node) : Gp.Node :=
  ⟨n.kind,if n.kind = 1 ∨ n.kind = 5 then n.file else [],if n.kind = 3 ∨ n.kind = 4 then n.c else zCmd,if n.kind = 4 then n.how else 0,if n.kind = 2 then n.wide else 0,n.ins⟩
def checkN (n : Gp.Node) : Int :=
  if n.kind < 1 ∨ 5 < n.kind then 4 else if errN n ≠ 0 then errN n else if insN n = true ∧ n = wantN n then 0 else 4
abbrev Ents:=List (List Int × Bool)
def portsGo (N : List Gp.Node) (i : Nat) : List Port → Ents → Int × Ents
  | [],u=>(0,u)
  | p :: r,u=>if p.node < 0 ∨ (i : Int) ≤ p.node ∨ p.out < 0 ∨ outsN (N.getD p.node.toNat ⟨0,[],zCmd,0,0,[]⟩) ≤ p.out then (5,u) else if mget false u [p.node,p.out] = true then (6,u) else portsGo N i r (mput u [p.node,p.out] true)
def nodesGo (N : List Gp.Node) : Nat → List Gp.Node → Int → Ents → Int
  | i,[],o,u=>if N.length = 0 ∨ (u.length : Int) ≠ o then 4 else 0
  | i,n :: r,o,u=>if checkN n ≠ 0 then checkN n else if (portsGo N i n.ins u).1 ≠ 0 then (portsGo N i n.ins u).1 else if decide (n.kind = 5) ≠ decide ((i : Int) = (N.length : Int) - 1) then 4 else nodesGo N (i + 1) r (o + outsN n) (portsGo N i n.ins u).2
def checkG (N : List Gp.Node) : Int:=if 60 < N.length then 2 else nodesGo N 0 N 0 []
theorem outsN_bnd {n : Gp.Node} (h : checkN n = 0) : 0 ≤ outsN n ∧ outsN n ≤ 5:=by
  unfold checkN at h
  split at h
  · cases h
  · split at h
    · rename_i h1 h2
      exact absurd h h2
    · rename_i h1 h2
      unfold outsN
      split
      · rename_i h3
        simp only [errN,h3] at h2
        simp at h2
        omega
      · split <;> omega
theorem nodesGo_at {N : List Gp.Node} {i : Nat} (hi : i < N.length) (o : Int) (u : Ents) : nodesGo N i (N.drop i) o u = if checkN N[i] ≠ 0 then checkN N[i] else if (portsGo N i N[i].ins u).1 ≠ 0 then (portsGo N i N[i].ins u).1 else if decide (N[i].kind = 5) ≠ decide ((i : Int) = (N.length : Int) - 1) then 4 else nodesGo N (i + 1) (N.drop (i + 1)) (o + outsN N[i]) (portsGo N i N[i].ins u).2:=by
  rw [List.drop_eq_getElem_cons hi,nodesGo]
end Gv
end PartP13
section PartP14
namespace Gv
open Go Gp
def makeN (n : Gp.Node) (f : List FileS) (ins : List Bs) : List Bs :=
  if n.kind = 1 then [put (linesOf (fileAt f n.file))]
  else if n.kind = 2 then splitLines (linesOf (ins.getD 0 [])) n.wide.toNat
  else if n.kind = 3 then [put (linesC n.c (linesOf (ins.getD 0 [])))]
  else if n.kind = 4 then [put (joinB n.how n.c (ins.map linesOf))]
  else []
theorem checkN_fine {n : Gp.Node} (h : checkN n = 0) : 1 ≤ n.kind ∧ n.kind ≤ 5 ∧ errN n = 0 ∧ insN n = true:=by
  unfold checkN at h
  split at h
  · cases h
  · split at h
    · rename_i h1 h2
      exact absurd h h2
    · rename_i h1 h2
      split at h
      · rename_i h3
        exact ⟨by omega,by omega,Decidable.not_not.1 h2,h3.1⟩
      · cases h
theorem checkN_shape {n : Gp.Node} (h : checkN n = 0) : (n.kind = 1 ∧ n.ins.length = 0) ∨ (n.kind = 2 ∧ n.ins.length = 1 ∧ 1 ≤ n.wide ∧ n.wide ≤ 5) ∨ (n.kind = 3 ∧ n.ins.length = 1 ∧ checkCmd n.c = 0) ∨ (n.kind = 4 ∧ 1 ≤ n.ins.length ∧ n.ins.length ≤ 5 ∧ checkJoin n.how n.c = 0) ∨ (n.kind = 5 ∧ n.ins.length = 1):=by
  obtain ⟨h1,h2,h3,h4⟩:=checkN_fine h
  have hk : n.kind = 1 ∨ n.kind = 2 ∨ n.kind = 3 ∨ n.kind = 4 ∨ n.kind = 5:=by omega
  rcases hk with k | k | k | k | k
  · refine .inl ⟨k,?_⟩
    simp [insN,k] at h4
    omega
  · refine .inr (.inl ⟨k,?_⟩)
    simp [insN,k] at h4
    simp [errN,k] at h3
    omega
  · refine .inr (.inr (.inl ⟨k,?_,?_⟩))
    · simp [insN,k] at h4
      omega
    · simpa [errN,k] using h3
  · refine .inr (.inr (.inr (.inl ⟨k,?_,?_,?_⟩)))
    · simp [insN,k] at h4
      omega
    · simp [insN,k] at h4
      omega
    · simpa [errN,k] using h3
  · refine .inr (.inr (.inr (.inr ⟨k,?_⟩)))
    simp [insN,k] at h4
    omega
theorem makeN_outs {n : Gp.Node} {f : List FileS} {ins : List Bs} (h : checkN n = 0) : ((makeN n f ins).length : Int) = outsN n:=by
  unfold makeN outsN
  rcases checkN_shape h with ⟨k,e⟩ | ⟨k,e,w1,w2⟩ | ⟨k,e,hc⟩ | ⟨k,e1,e2,hc⟩ | ⟨k,e⟩
  · rw [if_pos k,if_neg (by omega),if_neg (by omega)]; rfl
  · rw [if_neg (by omega),if_pos k,if_pos k]
    simp [splitLines]
    omega
  · rw [if_neg (by omega),if_neg (by omega),if_pos k,if_neg (by omega),if_neg (by omega)]; rfl
  · rw [if_neg (by omega),if_neg (by omega),if_neg (by omega),if_pos k,if_neg (by omega),if_neg (by omega)]; rfl
  · rw [if_neg (by omega),if_neg (by omega),if_neg (by omega),if_neg (by omega),if_neg (by omega),if_pos k]; rfl
def portAt (out : List (List Bs)) (p : Port) : Bs:=(out.getD p.node.toNat []).getD p.out.toNat []
def insOf (out : List (List Bs)) (l : List Port) : List Bs:=l.map (portAt out)
def tot (G : List (List Bs)) : Nat:=G.flatten.flatten.length
theorem mget_put {α : Type} (z : α) : ∀ (l : List (List Int × α)) (k : List Int) (a : α) (k' : List Int),mget z (mput l k a) k' = if k = k' then a else mget z l k'
  | [],k,a,k'=>by simp [mput,mget]
  | (j,b) :: r,k,a,k'=>by
    unfold mput
    by_cases h : j = k
    · subst h
      simp only [if_true,mget]
      split <;> rfl
    · simp only [h,if_false,mget,mget_put z r k a k']
      by_cases h1 : j = k'
      · subst h1
        have h2 : ¬ k = j:=fun e=>h e.symm
        simp [h2]
      · simp [h1]
structure Left (N : List Gp.Node) (out : List (List Bs)) (u : Ents) (G : List (List Bs)) : Prop where
  len : G.length = out.length
  outs : ∀ k (h : k < out.length),∃ h2 : k < N.length,(out[k].length : Int) = outsN N[k]
  each : ∀ k,(G.getD k []).length = (out.getD k []).length
  same : ∀ (k o : Nat),mget false u [(k : Int),(o : Int)] = false → (G.getD k []).getD o [] = (out.getD k []).getD o []
theorem getD_app {α : Type} (l r : List α) (d : α) {k : Nat} (h : k < l.length) : (l ++ r).getD k d = l.getD k d:=by
  rw [List.getD_eq_getElem?_getD,List.getElem?_append_left h,← List.getD_eq_getElem?_getD]
theorem getD_app2 {α : Type} (l r : List α) (d : α) {k : Nat} (h : l.length ≤ k) : (l ++ r).getD k d = r.getD (k - l.length) d:=by
  rw [List.getD_eq_getElem?_getD,List.getElem?_append_right h,← List.getD_eq_getElem?_getD]
def Upto (N : List Gp.Node) (out : List (List Bs)) : Prop:=∃ o u G,nodesGo N out.length (N.drop out.length) o u = 0 ∧ Left N out u G ∧ tot G ≤ 4100 * out.length
end Gv
end PartP14
section PartP15
namespace Gv
open Go Gp
theorem lt_tr {a b c : Bs} (h1 : a < b) (h2 : b < c) : a < c:=List.lt_trans h1 h2
theorem filesGo_iff : ∀ {l : List FileS} {q : Option Bs},filesGo q l = 0 ↔ (∀ f ∈ l,isWord f.name = true ∧ f.b.length ≤ 4000) ∧ (l.Pairwise fun a b=>a.name < b.name) ∧ ∀ s,q = some s → ∀ f ∈ l,s < f.name
  | [],q=>by simp [filesGo]
  | g :: r,q=>by
    have ih:=@filesGo_iff r (some g.name)
    rw [filesGo]
    constructor
    · intro h
      split at h
      · cases h
      · rename_i h1
        split at h
        · cases h
        · rename_i h2
          split at h
          · cases h
          · rename_i h3
            obtain ⟨i1,i2,i3⟩:=ih.1 h
            have i3:=i3 _ rfl
            have hq : ∀ s,q = some s → s < g.name:=fun s hs=>by
              subst hs
              simp only [notRise,less_eq] at h3
              simpa using h3
            refine ⟨fun f hf=>?_,List.pairwise_cons.2 ⟨i3,i2⟩,fun s hs f hf=>?_⟩
            · rcases List.mem_cons.1 hf with rfl | hf
              · exact ⟨by simpa using h1,by omega⟩
              · exact i1 f hf
            · rcases List.mem_cons.1 hf with rfl | hf
              · exact hq s hs
              · exact lt_tr (hq s hs) (i3 f hf)
    · rintro ⟨j1,j2,j3⟩
      obtain ⟨k1,k2⟩:=j1 g (List.mem_cons_self ..)
      rw [List.pairwise_cons] at j2
      rw [if_neg (by simp [k1]),if_neg (by omega),if_neg ?_]
      · exact ih.2 ⟨fun f hf=>j1 f (List.mem_cons_of_mem _ hf),j2.2,fun s hs f hf=>by cases hs; exact j2.1 f hf⟩
      · cases q with
        | none=>simp [notRise]
        | some s =>
          have:=j3 s rfl g (List.mem_cons_self ..)
          simp [notRise,less_eq,this]
end Gv
end PartP15
section PartP16
namespace Gv
open Go Gp
def useAll : List Port → Ents → Ents
  | [],u=>u
  | p :: r,u=>useAll r (mput u [p.node,p.out] true)
theorem mput_new {k : List Int} : ∀ {u : Ents},(∀ e ∈ u,e.2 = true) → mget false u k = false → mput u k true = u ++ [(k,true)]
  | [],_,_=>rfl
  | (j,b) :: r,h,hm=>by
    have hb : b = true:=h (j,b) (List.mem_cons_self ..)
    unfold mget at hm
    unfold mput
    split
    · rename_i e
      rw [if_pos e,hb] at hm
      cases hm
    · rename_i e
      rw [if_neg e] at hm
      rw [mput_new (fun x hx=>h x (List.mem_cons_of_mem _ hx)) hm]
      rfl
def Of (M : List Gp.Node) (p : Port) : Prop:=∃ k o : Nat,p = ⟨k,o⟩ ∧ ∃ h : k < M.length,(o : Int) < outsN M[k]
theorem useAll_ok {M : List Gp.Node} : ∀ {l : List Port} {u : Ents}, (∀ p ∈ l, Of M p ∧ mget false u [p.node, p.out] = false) → l.Nodup → (∀ e ∈ u, e.2 = true ∧ ∃ a b : Int, e.1 = [a, b] ∧ a < M.length) →
    (∀ N,M <+: N → portsGo N M.length l u = (0,useAll l u)) ∧ (useAll l u).length = u.length + l.length ∧ (∀ e ∈ useAll l u,e.2 = true ∧ ∃ a b : Int,e.1 = [a,b] ∧ a < M.length) ∧ ∀ a b : Int,(⟨a,b⟩ : Port) ∉ l → mget false (useAll l u) [a,b] = mget false u [a,b]
  | [],u,_,_,hu=>⟨fun N _=>rfl,rfl,hu,fun a b _=>rfl⟩
  | p :: r,u,hp,hn,hu=>by
    rw [List.nodup_cons] at hn
    obtain ⟨⟨k,o,rfl,hk,ho⟩,hm⟩:=hp p (List.mem_cons_self ..)
    have hput:=mput_new (fun e he=>(hu e he).1) hm
    have hu2 : ∀ e ∈ mput u [(k : Int),(o : Int)] true,e.2 = true ∧ ∃ a b : Int,e.1 = [a,b] ∧ a < M.length:=fun e he=>by
      rw [hput] at he
      rcases List.mem_append.1 he with he | he
      · exact hu e he
      · rw [List.mem_singleton] at he
        subst he
        exact ⟨rfl,k,o,rfl,by omega⟩
    have hp2 : ∀ q ∈ r,Of M q ∧ mget false (mput u [(k : Int),(o : Int)] true) [q.node,q.out] = false:=fun q hq=>by
      obtain ⟨h1,h2⟩:=hp q (List.mem_cons_of_mem _ hq)
      refine ⟨h1,?_⟩
      rw [mget_put,if_neg ?_]
      · exact h2
      · intro e
        apply hn.1
        have e1 : (k : Int) = q.node:=by simpa using (List.cons.inj e).1
        have e2 : (o : Int) = q.out:=by simpa using (List.cons.inj (List.cons.inj e).2).1
        rw [e1,e2]
        exact hq
    obtain ⟨i1,i2,i3,i4⟩:=useAll_ok hp2 hn.2 hu2
    refine ⟨fun N hN=>?_,?_,i3,fun a b hab=>?_⟩
    · have hg : N.getD k ⟨0, [], zCmd, 0, 0, []⟩ = M[k] := by
        obtain ⟨t,rfl⟩:=hN
        rw [getD_app _ _ _ hk,List.getD_eq_getElem?_getD,List.getElem?_eq_getElem hk]; rfl
      rw [portsGo,if_neg ?_,if_neg (by simp [hm]),i1 N hN]
      · rfl
      · show ¬ ((k : Int) < 0 ∨ (M.length : Int) ≤ (k : Int) ∨ (o : Int) < 0 ∨ outsN (N.getD (k : Int).toNat _) ≤ (o : Int))
        rw [Int.toNat_natCast,hg]
        omega
    · show (useAll r _).length = _
      rw [i2,hput,List.length_append]
      simp only [List.length_cons,List.length_nil]
      omega
    · show mget false (useAll r _) [a,b] = _
      rw [i4 a b fun h=>hab (List.mem_cons_of_mem _ h),mget_put,if_neg ?_]
      intro e
      apply hab
      have e1 : (k : Int) = a:=by simpa using (List.cons.inj e).1
      have e2 : (o : Int) = b:=by simpa using (List.cons.inj (List.cons.inj e).2).1
      rw [← e1,← e2]
      exact List.mem_cons_self ..
structure Good (M : List Gp.Node) (cur : List Port) : Prop where
  go : ∃ (o : Int) (u : Ents),(∀ N,M <+: N → M.length < N.length → nodesGo N 0 N 0 [] = nodesGo N M.length (N.drop M.length) o u) ∧ (u.length : Int) + cur.length = o ∧ (∀ e ∈ u,e.2 = true ∧ ∃ a b : Int,e.1 = [a,b] ∧ a < M.length) ∧ ∀ p ∈ cur,Of M p ∧ mget false u [p.node,p.out] = false
  nd : cur.Nodup
  no5 : ∀ n ∈ M,n.kind ≠ 5
theorem Of.more {M : List Gp.Node} {p : Port} (h : Of M p) (n : Gp.Node) : Of (M ++ [n]) p:=by
  obtain ⟨k,o,e,hk,ho⟩:=h
  refine ⟨k,o,e,by rw [List.length_append]; omega,?_⟩
  rw [List.getElem_append_left hk]
  exact ho
theorem Good.node {M : List Gp.Node} {rest : List Port} {n : Gp.Node} (h : Good M (n.ins ++ rest)) (hc : checkN n = 0) (hk : n.kind ≠ 5) : Good (M ++ [n]) (rest ++ ports M.length (outsN n).toNat):=by
  obtain ⟨⟨o,u,h1,h2,h3,h4⟩,hn,h5⟩:=h
  rw [List.nodup_append] at hn
  obtain ⟨hn1,hn2,hn3⟩:=hn
  obtain ⟨j1,j2,j3,j4⟩:=useAll_ok (fun p hp=>h4 p (List.mem_append_left _ hp)) hn1 h3
  have hob:=outsN_bnd hc
  refine ⟨⟨o + outsN n,useAll n.ins u,fun N hN hlt=>?_,?_,fun e he=>?_,fun p hp=>?_⟩,?_,fun x hx=>?_⟩
  · rw [List.length_append,List.length_singleton] at hlt ⊢
    have hM : M <+: N:=(List.prefix_append M [n]).trans hN
    have hlt2 : M.length < N.length:=by omega
    have hNn : N[M.length] = n:=by
      obtain ⟨t,rfl⟩:=hN
      rw [List.getElem_append_left (by simp)]
      simp
    rw [h1 N hM hlt2,nodesGo_at hlt2,hNn,hc,if_neg (by simp),j1 N hM,if_neg (by simp),if_neg ?_]
    rw [Decidable.not_not]
    rw [decide_eq_false hk,decide_eq_false (by omega)]
  · rw [List.length_append] at h2
    rw [List.length_append,ports_len,j2]
    omega
  · obtain ⟨e1,a,b,e2,e3⟩:=j3 e he
    refine ⟨e1,a,b,e2,?_⟩
    rw [List.length_append]
    omega
  · rcases List.mem_append.1 hp with hp | hp
    · obtain ⟨k1,k2⟩:=h4 p (List.mem_append_right _ hp)
      refine ⟨k1.more n,?_⟩
      rw [j4 p.node p.out ?_]
      · exact k2
      · intro hq
        exact hn3 _ hq _ hp rfl
    · obtain ⟨j,hj,rfl⟩:=List.mem_map.1 hp
      rw [List.mem_range] at hj
      refine ⟨⟨M.length,j,rfl,by rw [List.length_append,List.length_singleton]; omega,?_⟩,?_⟩
      · simp only [List.getElem_append_right (Nat.le_refl _)]
        simp
        omega
      · show mget false (useAll n.ins u) [(M.length : Int),(j : Int)] = false
        have nokey : ∀ (w : Ents),(∀ e ∈ w,e.2 = true ∧ ∃ a b : Int,e.1 = [a,b] ∧ a < M.length) → mget false w [(M.length : Int),(j : Int)] = false:=by
          intro w
          induction w with
          | nil=>intro _; rfl
          | cons e r ih =>
            intro hw
            obtain ⟨ks,v⟩:=e
            obtain ⟨-,a,b,e2,e3⟩:=hw _ (List.mem_cons_self ..)
            unfold mget
            rw [if_neg ?_]
            · exact ih fun x hx=>hw x (List.mem_cons_of_mem _ hx)
            · intro e4
              have e2 : ks = [a,b]:=e2
              rw [e2] at e4
              have:=(List.cons.inj e4).1
              omega
        exact nokey _ j3
  · rw [List.nodup_append]
    refine ⟨hn2,?_,fun a ha b hb e=>?_⟩
    · unfold ports
      exact List.pairwise_map.2 (List.nodup_range.imp fun h e=>h (by have e2:=congrArg Port.out e; simp at e2; omega))
    · subst e
      obtain ⟨j,hj,e⟩:=List.mem_map.1 hb
      obtain ⟨⟨k,o2,e2,hk2,-⟩,-⟩:=h4 a (List.mem_append_right _ ha)
      rw [e2] at e
      have:=congrArg Port.node e
      simp at this
      omega
  · rcases List.mem_append.1 hx with hx | hx
    · exact h5 x hx
    · rw [List.mem_singleton] at hx
      subst hx; exact hk
theorem Good.sink {M : List Gp.Node} {n : Gp.Node} (h : Good M n.ins) (hc : checkN n = 0) (hk : n.kind = 5) (hl : M.length < 60) : checkG (M ++ [n]) = 0:=by
  obtain ⟨⟨o,u,h1,h2,h3,h4⟩,hn,h5⟩:=h
  obtain ⟨j1,j2,j3,j4⟩:=useAll_ok h4 hn h3
  have hlen : (M ++ [n]).length = M.length + 1:=by simp
  unfold checkG
  rw [if_neg (by omega),h1 _ (List.prefix_append M [n]) (by omega),nodesGo_at (by omega)]
  have hNn : (M ++ [n])[M.length]'(by omega) = n:=by simp
  have hon : outsN n = 0:=by unfold outsN; rw [if_neg (by omega),if_pos hk]
  rw [hNn,hc,if_neg (by simp),j1 _ (List.prefix_append M [n]),if_neg (by simp),if_neg ?_]
  · rw [List.drop_eq_nil_of_le (by omega),nodesGo,if_neg ?_]
    rw [j2,hon,hlen]
    omega
  · rw [Decidable.not_not,decide_eq_true hk,decide_eq_true (by omega)]
end Gv
end PartP16
section PartP17
namespace Gv
open Go Gp
def outOf (f : List FileS) (M : List Gp.Node) : List (List Bs):=M.foldl (fun out n=>out ++ [makeN n f (insOf out n.ins)]) []
theorem outOf_snoc (f : List FileS) (M : List Gp.Node) (n : Gp.Node) : outOf f (M ++ [n]) = outOf f M ++ [makeN n f (insOf (outOf f M) n.ins)]:=by
  unfold outOf
  rw [List.foldl_append]
  rfl
theorem outOf_len (f : List FileS) (M : List Gp.Node) : (outOf f M).length = M.length:=by
  suffices h : ∀ (M : List Gp.Node) (out : List (List Bs)),(M.foldl (fun out n=>out ++ [makeN n f (insOf out n.ins)]) out).length = out.length + M.length by simpa [outOf] using h M []
  intro M
  induction M with
  | nil=>intro out; rfl
  | cons n r ih =>
    intro out
    rw [List.foldl_cons,ih,List.length_append]
    simp only [List.length_cons,List.length_nil]
    omega
structure St (f : List FileS) (M : List Gp.Node) (cur : List Port) (vals : List Bs) : Prop where
  good : Good M cur
  val : insOf (outOf f M) cur = vals
theorem St.len {f : List FileS} {M : List Gp.Node} {cur : List Port} {vals : List Bs} (h : St f M cur vals) : vals.length = cur.length:=by
  rw [← h.val]
  simp [insOf]
theorem St.node {f : List FileS} {M : List Gp.Node} {n : Gp.Node} {rest : List Port} {vi vr : List Bs} (h : St f M (n.ins ++ rest) (vi ++ vr)) (hl : vi.length = n.ins.length) (hc : checkN n = 0) (hk : n.kind ≠ 5) : St f (M ++ [n]) (rest ++ ports M.length (outsN n).toNat) (vr ++ makeN n f vi):=by
  have hv:=h.val
  unfold insOf at hv
  rw [List.map_append] at hv
  obtain ⟨v1,v2⟩:=List.append_inj hv (by rw [List.length_map]; exact hl.symm)
  refine ⟨h.good.node hc hk,?_⟩
  rw [outOf_snoc]
  have e1 : insOf (outOf f M) n.ins = vi:=v1
  rw [e1]
  have hx:=makeN_outs (f:=f) (ins:=vi) hc
  obtain ⟨x,hxe⟩ : ∃ x,makeN n f vi = x:=⟨_,rfl⟩
  rw [hxe] at hx ⊢
  have hxl : (outsN n).toNat = x.length:=by omega
  rw [hxl]
  unfold insOf
  rw [List.map_append]
  congr 1
  · rw [← v2]
    refine List.map_congr_left fun p hp=>?_
    obtain ⟨o,u,-,-,-,h4⟩:=h.good.go
    obtain ⟨⟨k,o2,rfl,hk2,-⟩,-⟩:=h4 p (List.mem_append_right _ hp)
    have hk3 : k < (outOf f M).length:=by rw [outOf_len]; exact hk2
    unfold portAt
    show ((outOf f M ++ [x]).getD (k : Int).toNat []).getD _ [] = ((outOf f M).getD (k : Int).toNat []).getD _ []
    rw [Int.toNat_natCast,getD_app _ _ _ hk3]
  · unfold ports
    rw [List.map_map]
    refine List.ext_getElem (by simp) fun j h1 h2=>?_
    simp only [List.getElem_map,List.getElem_range,Function.comp]
    show ((outOf f M ++ [x]).getD (M.length : Int).toNat []).getD (j : Int).toNat [] = x[j]
    rw [Int.toNat_natCast,Int.toNat_natCast,getD_app2 _ _ _ (by rw [outOf_len]; exact Nat.le_refl _),outOf_len,Nat.sub_self]
    show x.getD j [] = x[j]
    rw [List.getD_eq_getElem?_getD,List.getElem?_eq_getElem h2]
    rfl
end Gv
end PartP17
section PartP18
namespace Gv
open Go Gp
theorem gatherGo_ok {f : List FileS} : ∀ (l : List Bs) (a : List Bs) {x : Bs},gatherGo f (put a) l = (x,0) → x = put (a ++ (l.map fun s=>linesOf (fileAt f s)).flatten)
  | [],a,x,h=>by
    simp only [gatherGo,Prod.mk.injEq,and_true] at h
    rw [← h]
    simp
  | s :: r,a,x,h=>by
    rw [gatherGo] at h
    split at h
    · cases h
    · have e : put a ++ whole (fileAt f s) = put (a ++ linesOf (fileAt f s)):=by rw [put_append]; rfl
      rw [e] at h
      rw [gatherGo_ok r _ h]
      simp
end Gv
end PartP18
section PartP19
namespace Gv
open Go Gp
def dN : Gp.Node:=⟨0,[],zCmd,0,0,[]⟩
end Gv
end PartP19
section PartP20
namespace Gv
open Go Gp
end Gv
end PartP20
section PartS1
namespace Gv
open Go Gp
def linesBad : List LineS → Int
  | []=>0
  | x :: r=>if checkLine x ≠ 0 then checkLine x else linesBad r
def checkS (l : List LineS) : Int:=if 6 < l.length then 2 else linesBad l
end Gv
end PartS1
section PartP22
namespace Gv
open Go Gp
def runGoL (L : List FileS → LineS → Bs × Int) : List FileS → List LineS → List FileS × Int
  | F,[]=>(F,0)
  | F,x :: r=>if (L F x).2 ≠ 0 then ([],(L F x).2) else if (putS F x.to (L F x).1).2 ≠ 0 then ([],(putS F x.to (L F x).1).2) else runGoL L (putS F x.to (L F x).1).1 r
def runL (L : List FileS → LineS → Bs × Int) (F : List FileS) (s : List LineS) : List FileS × Int:=if checkFiles F ≠ 0 then ([],checkFiles F) else if checkS s ≠ 0 then ([],checkS s) else runGoL L F s
end Gv
end PartP22
section PartP23
namespace Gv
open Go Gp
def Rises (F : List FileS) : Prop:=F.Pairwise fun x y=>x.name < y.name
theorem bs_trans {a b c : Bs} (h : a < b) (k : b < c) : a < c:=List.lt_trans h k
theorem bs_irrefl (a : Bs) : ¬ a < a:=List.lt_irrefl a
theorem bs_tri {a b : Bs} (h : ¬ a < b) (h2 : ¬ a = b) : b < a:=by
  rcases List.le_total a b with h3 | h3
  · rcases List.le_iff_lt_or_eq.1 h3 with h4 | h4
    · exact absurd h4 h
    · exact absurd h4 h2
  · rcases List.le_iff_lt_or_eq.1 h3 with h4 | h4
    · exact h4
    · exact absurd h4.symm h2
theorem files_iff {F : List FileS} : checkFiles F = 0 ↔ F.length ≤ 12 ∧ (∀ f ∈ F,isWord f.name = true ∧ f.b.length ≤ 4000) ∧ Rises F:=by
  unfold checkFiles
  constructor
  · intro h
    split at h
    · cases h
    · rename_i h1
      have:=filesGo_iff.1 h
      exact ⟨by omega,this.1,this.2.1⟩
  · rintro ⟨h1,h2,h3⟩
    rw [if_neg (by omega)]
    exact filesGo_iff.2 ⟨h2,h3,fun q' e=>by cases e⟩
theorem notLess_iff {n : Bs} {f : FileS} : notLess n f = true ↔ ¬ f.name < n:=by unfold notLess; rw [less_eq]; simp
theorem place_cons {f : FileS} {r : List FileS} {n : Bs} : placeI (f :: r) n = if f.name < n then placeI r n + 1 else 0:=by
  unfold placeI
  rw [List.findIdx_cons]
  by_cases h : f.name < n
  · have : notLess n f = false := by
      cases e : notLess n f with
      | false=>rfl
      | true=>exact absurd h (notLess_iff.1 e)
    rw [this,if_pos h]; rfl
  · rw [notLess_iff.2 h,if_neg h]; rfl
theorem isAt_cons {f : FileS} {r : List FileS} {n : Bs} : isAt (f :: r) n = if f.name < n then isAt r n else decide (f.name = n):=by
  unfold isAt
  rw [place_cons]
  by_cases h : f.name < n
  · rw [if_pos h,if_pos h,List.getElem?_cons_succ]
  · rw [if_neg h,if_neg h]; rfl
theorem put_filter {n b : Bs} : ∀ {F : List FileS},Rises F → putGo F n b = (F.filter fun f=>decide (f.name < n)) ++ ⟨n,b⟩ :: F.filter fun f=>decide (n < f.name)
  | [],_=>rfl
  | f :: r,h=>by
    have h':=List.pairwise_cons.1 h
    have ih:=put_filter (n:=n) (b:=b) h'.2
    unfold putGo at ih ⊢
    rw [isAt_cons,place_cons]
    by_cases h1 : f.name < n
    · have e1 : (f :: r).filter (fun f=>decide (f.name < n)) = f :: r.filter (fun f=>decide (f.name < n)):=by rw [List.filter_cons,decide_eq_true h1,if_pos rfl]
      have e2 : (f :: r).filter (fun f=>decide (n < f.name)) = r.filter (fun f=>decide (n < f.name)):=by rw [List.filter_cons,decide_eq_false (fun h2=>bs_irrefl _ (bs_trans h1 h2)),if_neg (by decide)]
      rw [if_pos h1,if_pos h1,e1,e2,List.cons_append,← ih]
      split <;> simp
    · rw [if_neg h1,if_neg h1]
      by_cases h2 : f.name = n
      · have e1 : (f :: r).filter (fun f => decide (f.name < n)) = [] := by
          rw [List.filter_eq_nil_iff]
          intro g hg
          rcases List.mem_cons.1 hg with rfl | hg
          · simpa using h1
          · have:=h'.1 g hg
            rw [h2] at this
            simpa using fun h3=>bs_irrefl _ (bs_trans this h3)
        have e2 : (f :: r).filter (fun f=>decide (n < f.name)) = r:=by
          rw [List.filter_cons,decide_eq_false (by rw [h2]; exact bs_irrefl n),if_neg (by decide),List.filter_eq_self]
          intro g hg
          have:=h'.1 g hg
          rw [h2] at this
          simpa using this
        rw [e1,e2,if_pos (by simpa using h2)]
        rfl
      · have h3:=bs_tri h1 h2
        have e1 : (f :: r).filter (fun f=>decide (f.name < n)) = []:=by
          rw [List.filter_eq_nil_iff]
          intro g hg
          rcases List.mem_cons.1 hg with rfl | hg
          · simpa using h1
          · have:=bs_trans h3 (h'.1 g hg)
            simpa using fun h4=>bs_irrefl _ (bs_trans this h4)
        have e2 : (f :: r).filter (fun f=>decide (n < f.name)) = f :: r:=by
          rw [List.filter_eq_self]
          intro g hg
          rcases List.mem_cons.1 hg with rfl | hg
          · simpa using h3
          · simpa using bs_trans h3 (h'.1 g hg)
        rw [e1,e2,if_neg (by simpa using h2)]
        rfl
theorem rises_put {F : List FileS} {n b : Bs} (h : Rises F) : Rises (putGo F n b):=by
  rw [put_filter h]
  unfold Rises
  rw [List.pairwise_append]
  refine ⟨List.Pairwise.sublist List.filter_sublist h,List.pairwise_cons.2 ⟨fun g hg=>?_,List.Pairwise.sublist List.filter_sublist h⟩,fun x hx y hy=>?_⟩
  · simpa using (List.mem_filter.1 hg).2
  · have h1 : x.name < n:=by simpa using (List.mem_filter.1 hx).2
    rcases List.mem_cons.1 hy with rfl | hy
    · exact h1
    · exact bs_trans h1 (by simpa using (List.mem_filter.1 hy).2)
def getN (F : List FileS) (n : Bs) : Bs:=((F.find? fun f=>decide (f.name = n)).map (·.b)).getD []
theorem fileAt_getN {n : Bs} : ∀ {F : List FileS},Rises F → fileAt F n = getN F n
  | [],_=>rfl
  | f :: r,h=>by
    have h':=List.pairwise_cons.1 h
    have ih:=fileAt_getN (n:=n) h'.2
    unfold fileAt getN at ih ⊢
    rw [place_cons,List.find?_cons]
    by_cases h1 : f.name < n
    · have h2 : ¬ f.name = n:=fun e=>bs_irrefl _ (e ▸ h1)
      rw [if_pos h1,List.getElem?_cons_succ,ih,decide_eq_false h2]
    · rw [if_neg h1]
      by_cases h2 : f.name = n
      · rw [decide_eq_true h2]
        simp [h2]
      · rw [decide_eq_false h2]
        have h3:=bs_tri h1 h2
        have : r.find? (fun f=>decide (f.name = n)) = none:=by
          rw [List.find?_eq_none]
          intro g hg
          have:=bs_trans h3 (h'.1 g hg)
          simpa using fun e : g.name = n=>bs_irrefl _ (e ▸ this)
        simp [h2,this]
theorem putS_ok {F : List FileS} {n b : Bs} {r : List FileS × Int} (hr : putS F n b = r) (h0 : r.2 = 0) : checkFiles F = 0 ∧ isWord n = true ∧ b.length ≤ 4000 ∧ r.1 = putGo F n b ∧ checkFiles r.1 = 0:=by
  unfold putS at hr
  split at hr
  · rename_i h; subst hr; exact absurd h0 h
  · rename_i h1
    split at hr
    · subst hr; cases h0
    · rename_i h2
      split at hr
      · subst hr; cases h0
      · rename_i h3
        split at hr
        · subst hr; cases h0
        · rename_i h4
          subst hr
          have h1:=Decidable.not_not.1 h1
          have hw : isWord n = true:=by simpa using h2
          refine ⟨h1,hw,by omega,rfl,?_⟩
          obtain ⟨g1,g2,g3⟩:=files_iff.1 h1
          refine files_iff.2 ⟨?_,?_,rises_put g3⟩
          · show (putGo F n b).length ≤ 12
            unfold putGo
            split
            · rw [List.length_set]; exact g1
            · rename_i h5
              have:=place_le F n
              have h6 : ¬ F.length = 12:=fun e=>h4 ⟨by simpa using h5,e⟩
              simp; omega
          · intro f hf
            have hf : f ∈ putGo F n b:=hf
            rw [put_filter g3] at hf
            rcases List.mem_append.1 hf with hf | hf
            · exact g2 f (List.mem_filter.1 hf).1
            · rcases List.mem_cons.1 hf with rfl | hf
              · exact ⟨hw,by show b.length ≤ 4000; omega⟩
              · exact g2 f (List.mem_filter.1 hf).1
end Gv
end PartP23
section PartP25
namespace Gv
open Go Gp
theorem doLines_app (a b : List Cmd) (s : List Bs) : doLines (a ++ b) s = doLines b (doLines a s):=by
  unfold doLines
  rw [List.foldl_append]
def betweenN : Bs:=[98,101,116,119,101,101,110]
theorem between_put {m : Bs} (h : m.length ≤ 4000) : putS [] betweenN m = ([⟨betweenN,m⟩],0):=by
  have h1 : checkFiles [] = 0:=by decide +kernel
  have h2 : isWord betweenN = true:=by decide +kernel
  unfold putS
  rw [if_neg (by rw [h1]; decide),if_neg (by rw [h2]; decide),if_neg (by omega),if_neg (by simp)]
  rfl
end Gv
end PartP25
section PartAny
namespace Gv
open Go Go.RowKit Gw
variable [Glob]
section
variable {w0 : Start} {m0 mb : Mem} {qb : Loc} {n : Nat} {E : Env} {L : VSlots} {rows : Rows} {ops : Array Oper} {Q : Exit → Act → World → Prop} {a : Act} {w : World}
def setF (sel : Nat → Bool) (i : Nat) : Nat → Bool:=fun k=>Nat.beq k i || sel k
theorem setF_eq (sel : Nat → Bool) (i : Nat) : setF sel i i = true:=by unfold setF; rw [Nat.beq_refl]; rfl
def backB (ops : Array Oper) : Bool:=(List.range ops.size).all fun j=>match ops[j]? with
  | some o=>o.after.toList.all fun e=>!Region.binds .any e || Nat.blt e.on j
  | none=>true
def AnyStep (E : Env) (call : CallT) (ops : Array Oper) (Inv : (Nat → Bool) → VSlots → Rows → Prop) : Prop :=
  ∀ sel L rows i o,ops[i]? = some o → sel i = false → (∀ e ∈ o.after,Region.binds .any e = true → sel e.on = true) → Inv sel L rows → o.guard = none ∧ xop E call true L rows o.op fun v rows'=>Inv (setF sel i) (putV o.dst v L) rows'
theorem any_user (H : EnvOK E) {call : CallT} (HC : CallOK E call) {id : Nat} (hd : dstsL n ops.toList = true) (hback : backB ops = true) {Inv : (Nat → Bool) → VSlots → Rows → Prop} (h0 : Inv (fun _ => false) L rows) (step : AnyStep E call ops Inv)
    (done : ∀ sel L rows a w,(∀ i,i < ops.size → sel i = true) → Inv sel L rows → SIM w0 m0 mb qb n L rows a w → Q .normal a w)
    (S : SIM w0 m0 mb qb n L rows a w) : (Code.region id ops true).wp E.P Q a w:=by
  have hdst : ∀ (i : Nat) o,ops[i]? = some o → ∀ t,o.dst = some t → t < n:=fun i o ho t ht=>by
    have key : ∀ (l : List Oper),dstsL n l = true → o ∈ l → t < n:=by
      intro l
      induction l with
      | nil=>intro _ h; cases h
      | cons x r ih =>
        intro h hm
        unfold dstsL at h
        rw [Bool.and_eq_true] at h
        rcases List.mem_cons.1 hm with rfl | hm
        · rw [ht] at h; simpa [Nat.blt_eq] using h.1
        · exact ih h.2 hm
    exact key _ hd (by have:=List.mem_of_getElem? (l:=ops.toList) (i:=i) (a:=o) (by simpa using ho); exact this)
  refine wp_region_any H.mixed (any_of_inv (Inv:=fun ls a w=>ls.size = ops.size ∧ ∃ L rows,Inv (fun k=>ls.getD k false) L rows ∧ SIM w0 m0 mb qb n L rows a w) (fun ls a w i I hi=>?_) (fun ls a w I hr=>?_) _ _ _ _ (by rw [Array.toList_replicate,List.count_replicate]; simp) ?_)
  · obtain ⟨hsz,L,rows,hI,⟨⟨R,m,q,s1,s2,s3,s4⟩,s5,s6⟩⟩:=I
    obtain ⟨hf,o,ho,hall⟩:=mem_ready.1 hi
    have hin : i < ls.size:=by rw [hsz]; exact (Array.getElem?_eq_some_iff.1 ho).1
    have hff : ls.getD i false = false:=by simp [hin] at hf ⊢; exact hf
    obtain ⟨hg,hx⟩:=step _ L rows i o ho hff hall hI
    have he : (fun k=>(ls.setIfInBounds i true).getD k false) = setF (fun k=>ls.getD k false) i:=by
      funext k
      unfold setF
      by_cases hk : k = i
      · subst hk
        rw [Nat.beq_refl]
        simp [hin]
      · rw [getD_set_ne false (fun e=>hk e.symm)]
        have : Nat.beq k i = false:=by
          cases hb : Nat.beq k i with
          | false=>rfl
          | true=>exact absurd (Nat.eq_of_beq_eq_true hb) hk
        rw [this]
        rfl
    unfold wpOp
    simp only [ho]
    rw [if_pos (by simp [Region.wanted,hg])]
    left
    have s3 : SlotsR m q L a:=s3
    refine (xop_ok H HC ⟨s1,s2⟩ s3 hx).wp fun u w' ⟨v,rows',R',m',q',hk,C',hm,hq,hv⟩=>?_
    exact ⟨by simp [hsz],_,_,(by rw [he]; exact hk),.put C' (s3.up hm hq) ⟨s4.1.trans hm,s4.2.trans hq⟩ s5 s6 hv (hdst i o ho)⟩
  · obtain ⟨hsz,L,rows,hI,S'⟩:=I
    refine done _ L rows a w (fun i=>?_) hI S'
    induction i using Nat.strongRecOn with
    | _ j ih =>
      intro hj
      cases hs : ls.getD j false with
      | true=>rfl
      | false =>
        exfalso
        have hjr : j ∈ Region.ready .any ops ls:=by
          refine mem_ready.2 ⟨?_,ops[j],by simp [hj],fun e he hb=>?_⟩
          · have : j < ls.size:=by rw [hsz]; exact hj
            simp [this] at hs ⊢; exact hs
          · have h1:=List.all_eq_true.1 hback j (List.mem_range.2 hj)
            have h2 : ops[j]? = some ops[j]:=by simp [hj]
            simp only [h2] at h1
            have h3:=List.all_eq_true.1 h1 e (by simpa using he)
            rw [hb] at h3
            have h4 : e.on < j:=by simpa [Nat.blt_eq] using h3
            exact ih e.on h4 (by omega)
        rw [hr] at hjr; cases hjr
  · refine ⟨by simp,L,rows,?_,?_⟩
    · have : (fun k => (Array.replicate ops.size false).getD k false) = fun _ => false := by
        funext k
        rw [Array.getD_eq_getD_getElem?,Array.getElem?_replicate]
        split <;> rfl
      rw [this]
      exact h0
    · obtain ⟨⟨R,m,q,s1,s2,s3,s4⟩,s5,s6⟩:=S
      have C':=(Cf.mk s1 s2).step (Bel.drew [] w)
      exact ⟨⟨R,m,q,C'.sit,C'.rok,s3,s4⟩,s5,s6⟩
end
end Gv
end PartAny
section PartBld
namespace Gv
open Go Go.RowKit Gw Gp
variable [Glob]
section
variable {w0 : Start} {w w' : World} {m0 R m : Mem} {q : Loc} {rows : Rows} {P : Program}
end
theorem wpl_append {P : Program} {w : World} {ops : Array Oper} {rest : List Oper} {o : Oper} {a : Act} {Q : Exit → Act → World → Prop} (hgd : o.guard = none) (sl x : Operand) (t u : TypeId)
    (ho : o.op = .call { callee:=.builtin .append,args:=#[sl,x],argTypes:=#[t,u] }) {v v' s : Value} {w' : World} (hs : a.eval sl = v) (hx : a.eval x = s)
    (hr : (Builtin.append_ #[t,u] o.type #[v,s]).run P w = .ok v' w') (h : wpList P ops Q rest (a.put o.dst v') w') : wpList P ops Q (o :: rest) a w:=by
  refine wpList_plain hgd fun K hK=>?_
  unfold Oper.wp execOp
  simp only [ho,resolve,invoke,builtin,Sem.run_bind,Sem.run_pure,Result.andThen_ok,List.map_toArray,List.map_cons,List.map_nil,hs,hx,hr]
  exact hK _ _ h
end Gv
end PartBld
section PartSem
namespace Gv
open Go Go.RowKit Gw Gp
variable [Glob]
section
variable {P : Program} {w w' : World} {a : Act} {ops : Array Oper} {rest : List Oper} {o : Oper} {Q : Exit → Act → World → Prop}
theorem wpl_val (hg : o.guard = none) {v : Value} (hr : (execOp a.eval o).run P w = .ok (.value v) w') (h : wpList P ops Q rest (a.put o.dst v) w') : wpList P ops Q (o :: rest) a w :=
  wpList_plain hg fun K hK=>Nx.wp (G:=fun u w''=>u = v ∧ w'' = w') (by rw [hr]; exact ⟨rfl,rfl⟩) fun u w'' h'=>by
    obtain ⟨h1,h2⟩:=h'
    subst h1; subst h2; exact hK _ _ h
theorem wpl_move (hg : o.guard = none) {x : Operand} (ho : o.op = .move x) {v : Value} (hx : a.eval x = v) (h : wpList P ops Q rest (a.put o.dst v) w) : wpList P ops Q (o :: rest) a w :=
  wpl_val hg (v:=v) (w':=w) (by simp only [execOp,ho,Sem.run_pure,hx]) h
theorem put_ne {a : Act} {d t : Nat} {v : Value} (h : d ≠ t) : (a.put (some d) v).tmps.getD t undef = a.tmps.getD t undef:=by
  simp [Act.put,Array.getD_eq_getD_getElem?,h]
theorem put_eq {a : Act} {d : Nat} {v : Value} (h : d < a.tmps.size) : (a.put (some d) v).tmps.getD d undef = v:=by
  simp [Act.put,Array.getD_eq_getD_getElem?,h]
theorem put_size {a : Act} {d : Option Nat} {v : Value} : (a.put d v).tmps.size = a.tmps.size:=by
  cases d <;> simp [Act.put]
theorem put_defers {a : Act} {d : Option Nat} {v : Value} : (a.put d v).defers = a.defers:=by
  cases d <;> simp [Act.put]
theorem zeroCells_get {z : Array Value} {n i j : Nat} (hi : i < n) (hj : j < z.size) : (Builtin.zeroCells z n).toList[i * z.size + j]? = z[j]?:=by
  have hlt:=index_lt hi hj
  have h1 : (i * z.size + j) % z.size = j:=by rw [Nat.mul_comm,Nat.mul_add_mod]; exact Nat.mod_eq_of_lt hj
  unfold Builtin.zeroCells
  rw [Array.getElem?_toList,Array.getElem?_map]
  simp [hlt,h1,hj]
theorem clear_sem {id x j d1 d2 d3 T El k e r i : Nat} {z : Value} {g : Bool} {zx : V} {els : List V} {o1 o2 o3 o4 : Oper} {L : VSlots} {rows : Rows} {K : VSlots → Rows → Prop} {W : VSlots → Rows → (VSlots → Rows → Prop) → Prop}
    (hops : ops.toList = [o1,o2,o3,o4])
    (h1 : o1.op = .move (.tmp x)) (e1 : o1.dst = some d1) (g1 : o1.guard = none)
    (h2 : o2.op = .move (.tmp j)) (e2 : o2.dst = some d2) (g2 : o2.guard = none)
    (h3 : o3.op = .slice T (.tmp d1) (some (.tmp d2)) none none) (e3 : o3.dst = some d3) (g3 : o3.guard = none)
    (h4 : o4.op = .call { callee:=.builtin .clear,args:=#[.tmp d3],argTypes:=#[T] }) (e4 : o4.dst = none) (g4 : o4.guard = none)
    (hd : d1 ≠ j ∧ d1 ≠ d2 ∧ d1 ≠ d3 ∧ d2 ≠ d3)
    (hT : P.underlying T = some (.slice El)) (hE : tyOf P El = some (z,k,e,g)) (hzk : z.cells.size = k) (hz : VRL (fun _=>none) noLoc zx.cells z.cells.toList) (hz1 : ∀ u ∈ z.cells.toList,u.oneCell' = true)
    (hx : look L x = some (.own r)) (hj : look L j = some (.int .i64 (i : Int))) (hr : rows[r]? = some (.row k els)) (hi : i ≤ els.length)
    (n1 : look L d1 = none) (n2 : look L d2 = none) (n3 : look L d3 = none)
    (hK : K L (rows.set r (.row k (els.take i ++ List.replicate (els.length - i) zx)))) :
    Borrow P (.region id ops false) ops.toList W L rows K:=by
  refine .sem fun w0 m0 mb qb n a w Q hds S hQ=>?_
  obtain ⟨⟨R,m,q,s1,s2,s3,s4⟩,s5,s6⟩:=S
  have C : Cf w0 m0 rows R m q w:=⟨s1,s2⟩
  rw [hops] at hds
  have hdn : d1 < n ∧ d2 < n ∧ d3 < n:=by
    simp only [dstsL,e1,e2,e3,Bool.and_eq_true,Nat.blt_eq] at hds
    exact ⟨hds.1,hds.2.1,hds.2.2.1⟩
  obtain ⟨ob,cap,c1,c2,c3,c4,c5⟩:=C.rok.row r _ hr
  have vx:=s3 x _ hx
  have vj:=s3 j _ hj
  have hvx : a.tmps.getD x undef = .slice (row0 ob) els.length cap:=by
    generalize a.tmps.getD x undef = u at vx
    cases vx with | own h=>rw [c1] at h; cases h; rfl
  have hvj : a.tmps.getD j undef = .int .i64 (i : Int):=by
    generalize a.tmps.getD j undef = u at vj
    cases vj; rfl
  obtain ⟨q1,q2,q3,q4⟩:=hd
  have hsl:=run_slice (P:=P) (w:=w) (oa:=row0 ob) (n:=els.length) (cap:=cap) (lo:=some (.int .i64 (i : Int))) (hi:=none) (l:=i) (h:=els.length) hT hE (.inr ⟨.i64,rfl⟩) (.inl ⟨rfl,rfl⟩) hi c2
  -- what lies behind it
  have key : ∃ w' R',(Builtin.clear_ #[T] o4.type #[.slice (if cap = i then row0 ob else (row0 ob).map (·.add (i * k))) (els.length - i) (cap - i)]).run P w = .ok (.tuple #[]) w' ∧ Cf w0 m0 (rows.set r (.row k (els.take i ++ List.replicate (els.length - i) zx))) R' m q w':=by
    by_cases h0 : els.length - i = 0
    · have hie : i = els.length:=by omega
      refine ⟨w,R,?_,?_⟩
      · rw [h0]
        cases ob <;> split <;> simp [Builtin.clear_,run_underlying hT]
      · rw [h0,hie,List.take_length,List.replicate_zero,List.append_nil]
        have : rows.set r (.row k els) = rows:=by
          obtain ⟨hlt,he⟩:=List.getElem?_eq_some_iff.1 hr
          rw [← he,List.set_getElem_self]
        rw [this]
        exact C
    · obtain ⟨b, rfl⟩ : ∃ b, ob = some b := by
        cases ob with
        | some b=>exact ⟨b,rfl⟩
        | none=>have:=c4 rfl; omega
      obtain ⟨arr,T',fz,a1,a2,a3,a4⟩:=c5 b rfl
      have hbh:=(C.sit.own _ _ a1).2.1
      have hci : ¬ cap = i:=by omega
      have hzl : (Builtin.zeroCells z.cells (els.length - i)).toList.length = (els.length - i) * k:=by rw [Array.length_toList,zeroCells_size,hzk]
      have hfit : i * k + (els.length - i) * k ≤ arr.size:=by
        rw [a2,← Nat.add_mul]
        exact Nat.mul_le_mul_right _ (by omega)
      have hone : ∀ u ∈ (Builtin.zeroCells z.cells (els.length - i)).toList,u.oneCell' = true:=fun u hu=>by
        unfold Builtin.zeroCells at hu
        simp only [Array.toList_map,List.mem_map] at hu
        obtain ⟨y,hy,rfl⟩:=hu
        have hys : y < (els.length - i) * z.cells.size:=by simpa using hy
        have hpos : 0 < z.cells.size:=Nat.pos_of_ne_zero fun h=>by rw [h] at hys; simp at hys
        have hm:=Nat.mod_lt y hpos
        rw [getElem!_pos z.cells _ hm]
        exact hz1 _ (by simp)
      obtain ⟨w2,hr2,hbel,hh⟩:=run_storeCells (P:=P) (Builtin.zeroCells z.cells (els.length - i)).toList w (i * k) 0 arr hbh a4.1 (by rw [hzl]; omega) hone
      rw [Nat.add_zero] at hh
      refine ⟨w2,R.put b (.cells (putL arr (i * k) (Builtin.zeroCells z.cells (els.length - i)).toList) T' fz),?_,?_⟩
      · obtain ⟨l,hl⟩ : ∃ l,els.length - i = l + 1:=⟨els.length - i - 1,by omega⟩
        rw [if_neg hci]
        rw [hl] at hr2 ⊢
        simp only [Option.map_some,row0,add_none,Nat.zero_add]
        simp [Builtin.clear_,run_underlying hT,run_zero hE,hr2]
      · have hlen : (els.take i ++ List.replicate (els.length - i) zx).length = els.length:=by simp; omega
        refine C.store (r:=r) (y:=.row k (els.take i ++ List.replicate (els.length - i) zx)) hr rfl c1 a1 hbel hh ⟨some b,cap,by rw [hlen]; exact c1,by rw [hlen]; exact c2,c3,(fun h=>by cases h),fun b' hb'=>?_⟩
        cases hb'
        refine ⟨putL arr (i * k) (Builtin.zeroCells z.cells (els.length - i)).toList,T',fz,by simp [Mem.put],by rw [size_putL]; exact a2,?_,by rw [size_putL]; exact a4⟩
        intro t y hy
        have hti : (els.take i).length = i:=by rw [List.length_take]; omega
        rcases Nat.lt_or_ge t i with h | h
        · rw [List.getElem?_append_left (by omega),List.getElem?_take,if_pos h] at hy
          obtain ⟨p1,p2⟩:=a3 t y hy
          refine ⟨p1,fun s v hv=>?_⟩
          obtain ⟨u,p3,p4⟩:=p2 s v hv
          have hsk : s < k:=by rw [← p1]; exact (List.getElem?_eq_some_iff.1 hv).1
          have:=index_lt h hsk
          exact ⟨u,by rw [get_putL _ _ _ (by rw [hzl]; exact hfit),if_pos this]; exact p3,p4⟩
        · rw [List.getElem?_append_right (by omega),hti,List.getElem?_replicate] at hy
          split at hy
          · rename_i hlt
            cases hy
            have hkl : zx.cells.length = k:=by rw [hz.len,Array.length_toList,hzk]
            refine ⟨hkl,fun s v hv=>?_⟩
            have hsk : s < k:=by rw [← hkl]; exact (List.getElem?_eq_some_iff.1 hv).1
            have hsz : s < z.cells.size:=by omega
            have e : t * k + s = i * k + ((t - i) * k + s):=by
              have : t * k = (i + (t - i)) * k:=by congr 1; omega
              rw [this,Nat.add_mul]; omega
            have h3:=index_lt hlt hsk
            refine ⟨z.cells[s],?_,hz1 _ (by simp),(hz.el s v z.cells[s] hv (by simp [hsz])).up (fun b o h=>by cases h) (Loc.Le.refl _)⟩
            rw [e,get_putL _ _ _ (by rw [hzl]; exact hfit),if_neg (by omega),if_pos (by rw [hzl]; omega),Nat.add_sub_cancel_left]
            have:=zeroCells_get (z:=z.cells) (n:=els.length - i) (i:=t - i) (j:=s) hlt hsz
            rw [hzk] at this
            rw [this]
            simp [hsz]
          · cases hy
  obtain ⟨w2,R2,hrun,C2⟩:=key
  refine wp_region_list ?_
  rw [hops]
  refine wpl_move g1 h1 (v:=.slice (row0 ob) els.length cap) hvx ?_
  refine wpl_move g2 h2 (v:=.int .i64 (i : Int)) (by rw [e1]; exact (put_ne q1).trans hvj) ?_
  have hA1 : ((a.put o1.dst (.slice (row0 ob) els.length cap)).put o2.dst (.int .i64 (i : Int))).tmps.getD d1 undef = .slice (row0 ob) els.length cap:=by
    rw [e1,e2,put_ne q2.symm,put_eq (by rw [s5]; exact hdn.1)]
  have hA2 : ((a.put o1.dst (.slice (row0 ob) els.length cap)).put o2.dst (.int .i64 (i : Int))).tmps.getD d2 undef = .int .i64 (i : Int):=by
    rw [e2,put_eq (by rw [put_size,s5]; exact hdn.2.1)]
  generalize hA : ((a.put o1.dst (.slice (row0 ob) els.length cap)).put o2.dst (.int .i64 (i : Int))) = A at hA1 hA2 ⊢
  refine wpl_val g3 (v:=.slice (if cap = i then row0 ob else (row0 ob).map (·.add (i * k))) (els.length - i) (cap - i)) (w':=w) ?_ ?_
  · have f1 : A.eval (.tmp d1) = .slice (row0 ob) els.length cap:=hA1
    have f2 : A.eval (.tmp d2) = .int .i64 (i : Int):=hA2
    simp only [execOp,h3,f1,f2,Option.map_some,Option.map_none,hsl,Sem.run_bind,Result.andThen_ok,Sem.run_pure]
  refine wpl_val g4 (v:=.tuple #[]) (w':=w2) ?_ ?_
  · have f3 : (A.put o3.dst (.slice (if cap = i then row0 ob else (row0 ob).map (·.add (i * k))) (els.length - i) (cap - i))).eval (.tmp d3) = .slice (if cap = i then row0 ob else (row0 ob).map (·.add (i * k))) (els.length - i) (cap - i) := by
      show (A.put o3.dst _).tmps.getD d3 undef = _
      rw [e3,put_eq (by rw [← hA,put_size,put_size,s5]; exact hdn.2.2)]
    simp only [execOp,h4,resolve,invoke,builtin,Sem.run_bind,Sem.run_pure,Result.andThen_ok,List.map_toArray,List.map_cons,List.map_nil,f3,hrun]
  refine hQ L _ _ w2 hK ⟨⟨R2,m,q,C2.sit,C2.rok,fun t v ht=>?_,s4⟩,?_,?_⟩
  · have t1 : d1 ≠ t:=fun h=>by rw [h,ht] at n1; cases n1
    have t2 : d2 ≠ t:=fun h=>by rw [h,ht] at n2; cases n2
    have t3 : d3 ≠ t:=fun h=>by rw [h,ht] at n3; cases n3
    rw [e4,e3]
    show VR m q v ((A.put (some d3) _).tmps.getD t undef)
    rw [put_ne t3,← hA,e1,e2,put_ne t2,put_ne t1]
    exact s3 t v ht
  · rw [put_size,put_size,← hA,put_size,put_size]; exact s5
  · rw [put_defers,put_defers,← hA,put_defers,put_defers]; exact s6
end
end Gv
end PartSem
