/- A calculus of what functions come to, part d: what is said holds in every world; conditions stand in each theorem. -/
import Derived.Laws.Externs
import Derived.Laws.IdiomCopy
import Derived.Lib.AppendStr
import Derived.Lib.AtoiAllCases
import Derived.Lib.Builder
import Derived.Lib.Fields
import Derived.Lib.IndexBytes
import Derived.Lib.IndexLaws
import Derived.Lib.ItoaLen
import Derived.Lib.ItoaMem
import Derived.Lib.ItoaNum
import Derived.Lib.Join
import Derived.Lib.LaidTab
import Derived.Lib.Replace
import Derived.Lib.SlTrimSet
import Derived.Lib.SlicesCompact
import Derived.Lib.Space
import Derived.Lib.SplitLaws
import Derived.Lib.UnsafeStr
import Derived.OwnWalk
import Derived.Shelf.RegionOpenPlain
import Derived.Sort.EncStr
import Derived.Sort.Grow
import Derived.Sort.OwnSorted
import Derived.Sort.Walk0
import Derived.Test.YtffljdmmambdjabGreatDoorVc
import Derived.WalkKit
set_option linter.unusedVariables false
set_option linter.unusedSimpArgs false
set_option linter.unusedSectionVars false
section PartP1
namespace Gp
abbrev Bs:=List UInt8
def put : List Bs → Bs
  | []=>[]
  | s :: r=>s ++ 10 :: put r
def lineGo : Bs → Bs → List Bs
  | acc,[]=>if acc = [] then [] else [acc]
  | acc,c :: r=>if c = 10 then acc :: lineGo [] r else lineGo (acc ++ [c]) r
def linesOf (b : Bs) : List Bs:=lineGo [] b
def whole (b : Bs) : Bs:=put (linesOf b)
def part (l : List Bs) (n k : Nat) : List Bs:=(l.take ((k + 1) * l.length / n)).drop (k * l.length / n)
def splitLines (l : List Bs) (n : Nat) : List Bs:=(List.range n).map fun k=>put (part l n k)
end Gp
end PartP1
section PartP2
namespace Gp
structure Cmd where
  kind : Int
  word : Bs
  n : Int
  deriving DecidableEq
structure LineS where
  frm : List Bs
  cmds : List Cmd
  to : Bs
  deriving DecidableEq
structure Port where
  node : Int
  out : Int
  deriving DecidableEq
structure Node where
  kind : Int
  file : Bs
  c : Cmd
  how : Int
  wide : Int
  ins : List Port
  deriving DecidableEq
def wordByte (c : UInt8) : Bool:=(decide (97 ≤ c.toNat) && decide (c.toNat ≤ 122)) || (decide (48 ≤ c.toNat) && decide (c.toNat ≤ 57))
def isWord (s : Bs) : Bool:=decide (s ≠ []) && decide (s.length ≤ 12) && s.all wordByte
def useWord (c : Cmd) : Bool:=decide (c.kind = 1) || decide (c.kind = 2) || decide (c.kind = 3)
def useN (c : Cmd) : Bool:=decide (c.kind = 4) || decide (c.kind = 9) || decide (c.kind = 10)
def checkCmd (c : Cmd) : Int :=
  if c.kind < 1 ∨ 10 < c.kind then 4
  else if (useWord c = false ∧ c.word ≠ []) ∨ (useN c = false ∧ c.n ≠ 0) then 4
  else if useN c = true ∧ (c.n < 1 ∨ 1000 < c.n) then 3
  else if (useWord c = true ∧ isWord c.word = false) ∨ (c.kind = 3 ∧ c.word.length ≠ 2) then 1
  else 0
def firstBad : List Cmd → Int
  | []=>0
  | c :: r=>if checkCmd c = 0 then firstBad r else checkCmd c
def checkLine (l : LineS) : Int :=
  if l.frm.length = 0 ∨ 4 < l.frm.length ∨ 6 < l.cmds.length then 2
  else if (l.frm ++ [l.to]).all isWord = false then 1
  else firstBad l.cmds
def each (c : Cmd) : Bool:=decide (1 ≤ c.kind) && decide (c.kind ≤ 5)
def howFor (c : Cmd) : Int:=if c.kind = 6 then 2 else if c.kind = 8 then 3 else if c.kind = 7 ∨ c.kind = 9 ∨ c.kind = 10 then 4 else 1
theorem firstBad_at : ∀ {l : List Cmd},firstBad l = 0 → ∀ c ∈ l,checkCmd c = 0
  | [],h,c,hc=>by cases hc
  | c :: r,h,x,hx=>by
    unfold firstBad at h
    split at h
    · rename_i h1
      rcases List.mem_cons.1 hx with rfl | hx
      · exact h1
      · exact firstBad_at h x hx
    · rename_i h1; exact absurd h h1
def zCmd : Cmd:=⟨0,[],0⟩
def srcN (f : Bs) : Node:=⟨1,f,zCmd,0,0,[]⟩
def splitN (w : Int) (ins : List Port) : Node:=⟨2,[],zCmd,0,w,ins⟩
def workN (c : Cmd) (ins : List Port) : Node:=⟨3,[],c,0,0,ins⟩
def joinN (how : Int) (c : Cmd) (ins : List Port) : Node:=⟨4,[],c,how,0,ins⟩
structure Desk where
  nodes : List Node
  cur : List Port
def Desk.src (d : Desk) (f : Bs) : Desk:=⟨d.nodes ++ [srcN f],d.cur ++ [⟨d.nodes.length,0⟩]⟩
def Desk.behind (d : Desk) : Desk:=if 1 < d.cur.length then ⟨d.nodes ++ [joinN 1 zCmd d.cur],[⟨d.nodes.length,0⟩]⟩ else d
def ports (i : Int) (n : Nat) : List Port:=(List.range n).map fun (k : Nat)=>⟨i,(k : Int)⟩
def outs (i : Int) (n : Nat) : List Port:=(List.range n).map fun (k : Nat)=>⟨i + (k : Int),0⟩
def Desk.wide (d : Desk) (n : Int) : Desk:=if 1 < d.cur.length ∨ n = 1 then d else ⟨d.nodes ++ [splitN n d.cur],ports d.nodes.length n.toNat⟩
def Desk.work (d : Desk) (c : Cmd) : Desk:=⟨d.nodes ++ d.cur.map fun p=>workN c [p],outs d.nodes.length d.cur.length⟩
def Desk.fin (d : Desk) (c : Cmd) : Desk:=⟨d.nodes ++ [joinN (howFor c) (if howFor c = 4 then c else zCmd) d.cur],[⟨d.nodes.length,0⟩]⟩
def Desk.step (wide : Int) (d : Desk) (c : Cmd) : Desk:=if each c = true ∨ wide = 1 then (d.wide wide).work c else ((d.wide wide).work c).fin c
theorem ports_len (i : Int) (n : Nat) : (ports i n).length = n:=by simp [ports]
end Gp
end PartP2
section PartEnc
namespace Gv
open Go Gp
def cmdV (c : Cmd) : V:=.agg [.int .i64 c.kind,.str c.word,.int .i64 c.n]
noncomputable def lineV (l : LineS) : V:=.agg [.sl strV l.frm,.sl cmdV l.cmds,.str l.to]
structure FileS where
  name : Bs
  b : Bs
  deriving DecidableEq
end Gv
end PartEnc
section PartAd
namespace Gv
open Go Go.RowKit Gw Gp
variable [Glob]
abbrev ba (s : Bs) : ByteArray:=⟨s.toArray⟩
theorem ba_size (s : Bs) : (ba s).size = s.length:=by simp [ba,ByteArray.size]
theorem vr_str {m : Mem} {q : Loc} {s : Bs} {u : Value} (h : VR m q (.str s) u) : u = Gw.str s ∧ s.length ≤ MAXL:=by
  cases h with | str h=>exact ⟨rfl,h⟩
theorem strs_open {w : World} {m : Mem} {q : Loc} {l : List Bs} {u : Value} (h : VR m q (.sl strV l) u) (hm : Sub m w) : ∃ p c, u = .slice p l.length c ∧ l.length ≤ c ∧ c ≤ MAXL ∧
    (l ≠ [] → ∃ b o,p = some ⟨b,o,none⟩ ∧ b < w.heap.size ∧ (∀ (j : Nat) x,l[j]? = some x → w.cell? ⟨b,o + j,none⟩ = some (Gw.str x)) ∧ ∀ x ∈ l,x.length ≤ MAXL):=by
  cases h with
  | @sl0 _ _ _ oa cap hc h0=>exact ⟨oa,cap,rfl,by simp,hc,fun h=>absurd rfl h⟩
  | @sl _ _ _ _ b off arr T fz cap k us h1 h2 h3 h4 h5 h6 =>
    refine ⟨_,_,rfl,h1,h2,fun hne=>⟨b,off,rfl,hm.lt h3,fun j x hx=>?_,fun x hx=>?_⟩⟩
    · have hj : j < l.length:=(List.getElem?_eq_some_iff.1 hx).1
      have hxe : l[j] = x:=(List.getElem?_eq_some_iff.1 hx).2
      have hk : k = 1:=by rw [← h4 j hj]; rfl
      subst hk
      have e:=h5 j hj 0 (strV l[j]) (by simp [strV,V.cells])
      have e2:=h6 j hj 0 (strV l[j]) (by simp [strV,V.cells])
      have e3:=(vr_str e2).1
      have hb:=hm _ _ h3
      simp only [World.cell?,hb,Option.isSome_none,Bool.false_eq_true,if_false]
      rw [show off + j = off + j * 1 + 0 by omega,e.1,e3,hxe]
    · obtain ⟨j,hj,rfl⟩:=List.getElem_of_mem hx
      exact (vr_str (h6 j hj 0 (strV l[j]) (by simp [strV,V.cells]))).2
theorem strs_new {w w' : World} {m : Mem} {l : List Bs} {T : TypeId} (hb : w'.heap[w.heap.size]? = some (.cells (l.map Gw.str).toArray T)) (hl : l.length ≤ MAXL) (hx : ∀ x ∈ l, x.length ≤ MAXL) :
    VR (grow m w w') noLoc (.sl strV l) (.slice (some ⟨w.heap.size,0,none⟩) l.length l.length):=by
  have hc : ∀ j x,l[j]? = some x → ((l.map Gw.str).toArray)[0 + j * 1 + 0]? = some (Gw.str x):=fun j x hx=>by
    rw [show 0 + j * 1 + 0 = j by omega,List.getElem?_toArray,List.getElem?_map,hx]; rfl
  refine .sl (k:=1) (off:=0) (fun i j=>Gw.str (l.getD i [])) (Nat.le_refl _) hl (show grow m w w' _ = _ by unfold grow; rw [if_neg (by omega)]; exact hb) (fun i h=>rfl) (fun i h j v e=>?_) (fun i h j v e=>?_)
  · have hj : j = 0 := by
      rcases Nat.eq_zero_or_pos j with h | h
      · exact h
      · rw [List.getElem?_eq_none (by simp [strV,V.cells]; omega)] at e; cases e
    subst hj
    refine ⟨?_,rfl⟩
    rw [hc i l[i] (List.getElem?_eq_getElem h)]
    simp [h]
  · have hj : j = 0 := by
      rcases Nat.eq_zero_or_pos j with h | h
      · exact h
      · rw [List.getElem?_eq_none (by simp [strV,V.cells]; omega)] at e; cases e
    subst hj
    obtain rfl : V.str l[i] = v:=by simpa [strV,V.cells] using e
    have : l.getD i [] = l[i]:=by simp [h]
    rw [this]
    exact .str (hx _ (List.getElem_mem h))
theorem splitK_le (sep : Bs) : ∀ (k : Nat) (s : Bs),∀ x ∈ Lib.splitK sep 0 k s,x.length ≤ s.length
  | 0,s,x,hx=>by simp [Lib.splitK] at hx; subst hx; exact Nat.le_refl _
  | k + 1,s,x,hx=>by
    unfold Lib.splitK at hx
    split at hx
    · simp at hx; subst hx; exact Nat.le_refl _
    · rcases List.mem_cons.1 hx with rfl | hx
      · simp; omega
      · have:=splitK_le sep k _ x hx
        simp at this; omega
theorem split_len (s sep : Bs) (h : 1 ≤ sep.length) : (Lib.split s sep).length = Lib.count s sep + 1:=by
  have h1:=Lib.splitB_all (ba sep) (by rw [ba_size]; exact h) 0 (Lib.count s sep) (ba s) rfl
  have e:=congrArg List.length (Lib.splitB_data (ba sep) 0 (Lib.count s sep) (ba s))
  rw [List.length_map,h1] at e
  exact e.symm
theorem split_cells (s sep : Bs) : List.map Value.string (Lib.splitB (ba sep) 0 (Lib.countB (ba s) (ba sep)) (ba s)) = (Lib.split s sep).map Gw.str:=by
  have e:=Lib.splitB_data (ba sep) 0 (Lib.countB (ba s) (ba sep)) (ba s)
  have e2 : Lib.split s sep = (Lib.splitB (ba sep) 0 (Lib.countB (ba s) (ba sep)) (ba s)).map (·.data.toList):=e.symm
  rw [e2,List.map_map]
  refine List.map_congr_left fun x hx=>?_
  show Value.string x = Value.string ⟨x.data.toList.toArray⟩
  simp
end Gv
end PartAd
section PartAd2
namespace Gv
open Go Go.RowKit Gw Gp
variable [Glob]
section
variable {w0 : Start} {w w' : World} {m0 R m : Mem} {q : Loc}
end
def sortB (l : List Bs) : List Bs:=l.mergeSort fun x y=>decide (x ≤ y)
def onceB (l : List Bs) : List Bs:=Lib.compact l
end Gv
end PartAd2
section PartP3
namespace Gv
open Go Gp
theorem idx_one (a : UInt8) : ∀ s : Bs,(Lib.index s [a] = -1 ∧ a ∉ s) ∨ ∃ p r,s = p ++ a :: r ∧ a ∉ p ∧ Lib.index s [a] = (p.length : Int)
  | []=>.inl ⟨rfl,by simp⟩
  | b :: l=>by
    unfold Lib.index
    have e : [a].isPrefixOf (b :: l) = (a == b):=by simp [List.isPrefixOf]
    rw [e]
    by_cases h : a = b
    · subst h
      right
      exact ⟨[],l,rfl,by simp,by simp⟩
    · have hb : (a == b) = false:=by simpa using h
      rw [hb]
      rcases idx_one a l with ⟨h1,h2⟩ | ⟨p,r,rfl,h2,h3⟩
      · left
        refine ⟨?_,by simp [h,h2]⟩
        rw [h1]; rfl
      · right
        refine ⟨b :: p,r,rfl,by simp [h,h2],?_⟩
        rw [h3]
        have : ((p.length : Int) == -1) = false:=by simp
        simp only [this,Bool.false_eq_true,if_false,List.length_cons]
        omega
theorem split_no {a : UInt8} {s : Bs} (h : a ∉ s) : Lib.split s [a] = [s]:=by
  unfold Lib.split
  rw [Lib.count_one,List.count_eq_zero.2 h]
  rfl
theorem idx_at {a : UInt8} {p : Bs} (h : a ∉ p) (r : Bs) : Lib.index (p ++ a :: r) [a] = (p.length : Int):=by
  rcases idx_one a (p ++ a :: r) with ⟨-,h2⟩ | ⟨p',r',e,h2,h3⟩
  · simp at h2
  · have : p = p' := by
      rcases List.append_eq_append_iff.1 e with ⟨x,hx,hy⟩ | ⟨x,hx,hy⟩
      · cases x with
        | nil=>simpa using hx.symm
        | cons c x =>
          simp only [List.cons_append,List.cons.injEq] at hy
          rw [hx,← hy.1] at h2
          simp at h2
      · cases x with
        | nil=>simpa using hx
        | cons c x =>
          simp only [List.cons_append,List.cons.injEq] at hy
          rw [hx,← hy.1] at h
          simp at h
    rw [h3,this]
theorem split_at {a : UInt8} {p : Bs} (h : a ∉ p) (r : Bs) : Lib.split (p ++ a :: r) [a] = p :: Lib.split r [a]:=by
  have hi:=idx_at h r
  unfold Lib.split
  have hc : Lib.count (p ++ a :: r) [a] = Lib.count r [a] + 1:=by
    rw [Lib.count_one,Lib.count_one,List.count_append,List.count_eq_zero.2 h]
    simp
  rw [hc,Lib.splitK,hi]
  have : ((p.length : Int) == -1) = false:=by simp
  simp only [this,Bool.false_eq_true,if_false,Int.toNat_natCast,Nat.add_zero,List.take_left,List.length_singleton,List.cons.injEq,true_and]
  have e : (p ++ a :: r).drop (p.length + 1) = r:=by
    rw [← List.drop_drop]
    simp
  rw [e]
theorem split_ne (s sep : Bs) : Lib.split s sep ≠ []:=by
  unfold Lib.split
  generalize Lib.count s sep = k
  cases k with
  | zero=>simp [Lib.splitK]
  | succ k=>unfold Lib.splitK; split <;> simp
def oneC (c : Cmd) (s : Bs) : Bs × Bool :=
  if c.kind = 1 then (s,Lib.contains s c.word) else if c.kind = 2 then (s,!Lib.contains s c.word)
  else if c.kind = 3 then (Lib.replaceAll s (c.word.take 1) (c.word.drop 1),true)
  else if c.kind = 4 then (if ((Lib.split s [32]).length : Int) < c.n then [] else (Lib.split s [32]).getD (c.n - 1).toNat [],true)
  else (s.reverse,true)
def outC (c : Cmd) (s : Bs) : Option Bs:=match oneC c s with | (t,true)=>some t | (_,false)=>none
def linesC (c : Cmd) (l : List Bs) : List Bs :=
  if c.kind = 6 then sortB l else if c.kind = 7 then onceB l else if c.kind = 8 then [Lib.itoa l.length]
  else if c.kind = 9 then l.take c.n.toNat else if c.kind = 10 then l.drop (l.length - c.n.toNat) else l.filterMap (outC c)
theorem itoa_len (n : Int) (h : -9223372036854775808 ≤ n ∧ n ≤ 9223372036854775807) : (Lib.itoa n).length ≤ 24:=by
  unfold Lib.itoa
  split
  · have:=Lib.nDigits_le20 n.natAbs (by omega)
    simp only [List.length_cons,Lib.decDigits_length]
    omega
  · have:=Lib.nDigits_le20 n.toNat (by omega)
    rw [Lib.decDigits_length]
    omega
end Gv
end PartP3
section PartP4
namespace Gv
open Go Gp
end Gv
end PartP4
section PartP5
namespace Gv
open Go Gp
end Gv
end PartP5
section PartP7
namespace Gv
open Go Gp
def bestStep (b : Option (Nat × Bs)) (i : Nat) (l : List Bs) : Option (Nat × Bs) :=
  match l with
  | []=>b
  | s :: _=>match b with
    | none=>some (i,s)
    | some (j,t)=>if Op.bytesLess s t = true then some (i,s) else some (j,t)
def best (parts : List (List Bs)) : Nat → Option (Nat × Bs)
  | 0=>none
  | i + 1=>bestStep (best parts i) i (parts.getD i [])
def mergeN : Nat → List (List Bs) → List Bs
  | 0,_=>[]
  | n + 1,parts=>match best parts parts.length with
    | none=>[]
    | some (j,s)=>s :: mergeN n (parts.set j ((parts.getD j []).drop 1))
def mergeB (parts : List (List Bs)) : List Bs:=mergeN parts.flatten.length parts
theorem all_nil {parts : List (List Bs)} (h : ∀ k,k < parts.length → parts.getD k [] = []) : parts.flatten = []:=by
  rw [List.flatten_eq_nil_iff]
  intro x hx
  obtain ⟨k,hk,rfl⟩:=List.getElem_of_mem hx
  have:=h k hk
  rwa [List.getD_eq_getElem?_getD,List.getElem?_eq_getElem hk] at this
def numOf (s : Bs) : Int:=match Lib.atoiAll s with | .ok k=>if 0 ≤ k ∧ k ≤ 4000 ∧ Lib.itoa k = s then k else 0 | _=>0
def numH (l : List Bs) : Int:=match l with | []=>0 | s :: _=>numOf s
def sumN (parts : List (List Bs)) : Nat → Int
  | 0=>0
  | i + 1=>sumN parts i + numH (parts.getD i [])
theorem pu_cons (acc : Nat) (c : UInt8) (r : Bs) : Lib.parseUint10 acc (c :: r) = if 48 ≤ c.toNat ∧ c.toNat ≤ 57 then if 1844674407370955162 ≤ acc then .range else if 18446744073709551616 ≤ acc * 10 + (c.toNat - 48) then .range else Lib.parseUint10 (acc * 10 + (c.toNat - 48)) r else Lib.NumEnd.syntax:=rfl
theorem parseUint_app : ∀ (a b : Bs) (acc : Nat),Lib.parseUint10 acc (a ++ b) = match Lib.parseUint10 acc a with | .ok u=>Lib.parseUint10 u b | Lib.NumEnd.syntax=>Lib.NumEnd.syntax | .range=>.range
  | [],b,acc=>rfl
  | c :: a,b,acc=>by
    rw [List.cons_append,pu_cons,pu_cons]
    split
    · split
      · rfl
      · split
        · rfl
        · exact parseUint_app a b _
    · rfl
theorem parse_dec (u : Nat) (h : u < 1844674407370955161) : Lib.parseUint10 0 (Lib.decDigits u) = .ok u:=by
  induction u using Nat.strongRecOn with
  | _ u ih =>
    rw [Lib.decDigits]
    split
    · rename_i h1
      have e : (UInt8.ofNat (48 + u)).toNat = 48 + u:=by
        rw [UInt8.toNat_ofNat']; omega
      unfold Lib.parseUint10
      rw [e,if_pos (by omega),if_neg (by omega),if_neg (by omega)]
      unfold Lib.parseUint10
      congr 1; omega
    · rename_i h1
      rw [parseUint_app,ih (u / 10) (by omega) (by omega)]
      have e : (UInt8.ofNat (48 + u % 10)).toNat = 48 + u % 10:=by
        rw [UInt8.toNat_ofNat']; omega
      dsimp only
      unfold Lib.parseUint10
      rw [e,if_pos (by omega),if_neg (by omega),if_neg (by omega)]
      unfold Lib.parseUint10
      congr 1; omega
theorem dec_bytes (u : Nat) : ∀ c ∈ Lib.decDigits u,48 ≤ c.toNat ∧ c.toNat ≤ 57:=by
  induction u using Nat.strongRecOn with
  | _ u ih =>
    rw [Lib.decDigits]
    split
    · intro c hc
      simp at hc
      subst hc
      rw [UInt8.toNat_add,UInt8.toNat_ofNat']
      simp; omega
    · intro c hc
      rcases List.mem_append.1 hc with hc | hc
      · exact ih (u / 10) (by omega) c hc
      · simp at hc
        subst hc
        rw [UInt8.toNat_add,UInt8.toNat_ofNat']
        simp; omega
theorem dec_ne (u : Nat) : Lib.decDigits u ≠ []:=by
  rw [Lib.decDigits]
  split <;> simp
theorem atoi_itoa {n : Nat} (h : n < 1844674407370955161) : Lib.atoiAll (Lib.itoa n) = .ok (n : Int):=by
  rw [Lib.itoa_nonneg]
  have hp:=parse_dec n h
  cases hd : Lib.decDigits n with
  | nil=>exact absurd hd (dec_ne n)
  | cons c r =>
    have hc:=dec_bytes n c (by rw [hd]; simp)
    rw [Lib.atoiAll_plain c r (by omega) (by omega)]
    unfold Lib.parseMag
    rw [if_neg (by simp),← hd,hp]
    show (if 9223372036854775808 ≤ n then Lib.NumEnd.range else .ok (n : Int)) = _
    rw [if_neg (by omega)]
end Gv
end PartP7
section PartP8
namespace Gv
open Go Gp
def joinB (how : Int) (c : Cmd) (p : List (List Bs)) : List Bs :=
  if how = 2 then mergeB p else if how = 3 then [Lib.itoa (sumN p p.length)] else if how = 4 then linesC c p.flatten else p.flatten
def checkJoin (how : Int) (c : Cmd) : Int:=if how < 1 ∨ 4 < how then 4 else if how ≠ 4 then (if c ≠ zCmd then 4 else 0) else checkCmd c
theorem kinds {c : Cmd} (h : checkCmd c = 0) : c.kind = 1 ∨ c.kind = 2 ∨ c.kind = 3 ∨ c.kind = 4 ∨ c.kind = 5 ∨ c.kind = 6 ∨ c.kind = 7 ∨ c.kind = 8 ∨ c.kind = 9 ∨ c.kind = 10:=by
  unfold checkCmd at h
  grind
end Gv
end PartP8
section PartP9
namespace Gv
open Go Gp
def notLess (n : Bs) (f : FileS) : Bool:=!Op.bytesLess f.name n
def placeI (l : List FileS) (n : Bs) : Nat:=l.findIdx (notLess n)
def fileAt (l : List FileS) (n : Bs) : Bs:=match l[placeI l n]? with | some f=>if f.name = n then f.b else [] | none=>[]
end Gv
end PartP9
section PartP10
namespace Gv
open Go Gp
end Gv
end PartP10
section PartP11
namespace Gv
open Go Gp
end Gv
end PartP11
section PartP12
namespace Gv
open Go Gp
variable {P : List (List Bs)} {a : List Nat}
end Gv
end PartP12
section PartP13
namespace Gv
open Go Gp
def outsN (n : Gp.Node) : Int:=if n.kind = 2 then n.wide else if n.kind = 5 then 0 else 1
def errN (n : Gp.Node) : Int :=
  if n.kind = 1 ∨ n.kind = 5 then (if isWord n.file = true then 0 else 1)
  else if n.kind = 2 then (if n.wide < 1 ∨ 5 < n.wide then 3 else 0)
  else if n.kind = 3 then checkCmd n.c
  else checkJoin n.how n.c
def insN (n : Gp.Node) : Bool :=
  if n.kind = 1 ∨ n.kind = 5 then (decide ((n.ins.length : Int) = 1) == decide (n.kind = 5)) && decide ((n.ins.length : Int) < 2)
  else if n.kind = 4 then decide ((1 : Int) ≤ (n.ins.length : Int)) && decide ((n.ins.length : Int) ≤ 5)
  else decide ((n.ins.length : Int) = 1)
def wantN (n : Gp.Node) : Gp.Node :=
  ⟨n.kind,if n.kind = 1 ∨ n.kind = 5 then n.file else [],if n.kind = 3 ∨ n.kind = 4 then n.c else zCmd,if n.kind = 4 then n.how else 0,if n.kind = 2 then n.wide else 0,n.ins⟩
def checkN (n : Gp.Node) : Int :=
  if n.kind < 1 ∨ 5 < n.kind then 4 else if errN n ≠ 0 then errN n else if insN n = true ∧ n = wantN n then 0 else 4
abbrev Ents:=List (List Int × Bool)
def portsGo (N : List Gp.Node) (i : Nat) : List Port → Ents → Int × Ents
  | [],u=>(0,u)
  | p :: r,u=>if p.node < 0 ∨ (i : Int) ≤ p.node ∨ p.out < 0 ∨ outsN (N.getD p.node.toNat ⟨0,[],zCmd,0,0,[]⟩) ≤ p.out then (5,u) else if mget false u [p.node,p.out] = true then (6,u) else portsGo N i r (mput u [p.node,p.out] true)
def nodesGo (N : List Gp.Node) : Nat → List Gp.Node → Int → Ents → Int
  | i,[],o,u=>if N.length = 0 ∨ (u.length : Int) ≠ o then 4 else 0
  | i,n :: r,o,u=>if checkN n ≠ 0 then checkN n else if (portsGo N i n.ins u).1 ≠ 0 then (portsGo N i n.ins u).1 else if decide (n.kind = 5) ≠ decide ((i : Int) = (N.length : Int) - 1) then 4 else nodesGo N (i + 1) r (o + outsN n) (portsGo N i n.ins u).2
theorem outsN_bnd {n : Gp.Node} (h : checkN n = 0) : 0 ≤ outsN n ∧ outsN n ≤ 5:=by
  unfold checkN at h
  split at h
  · cases h
  · split at h
    · rename_i h1 h2
      exact absurd h h2
    · rename_i h1 h2
      unfold outsN
      split
      · rename_i h3
        simp only [errN,h3] at h2
        simp at h2
        omega
      · split <;> omega
theorem nodesGo_at {N : List Gp.Node} {i : Nat} (hi : i < N.length) (o : Int) (u : Ents) : nodesGo N i (N.drop i) o u = if checkN N[i] ≠ 0 then checkN N[i] else if (portsGo N i N[i].ins u).1 ≠ 0 then (portsGo N i N[i].ins u).1 else if decide (N[i].kind = 5) ≠ decide ((i : Int) = (N.length : Int) - 1) then 4 else nodesGo N (i + 1) (N.drop (i + 1)) (o + outsN N[i]) (portsGo N i N[i].ins u).2:=by
  rw [List.drop_eq_getElem_cons hi,nodesGo]
end Gv
end PartP13
section PartP14
namespace Gv
open Go Gp
def makeN (n : Gp.Node) (f : List FileS) (ins : List Bs) : List Bs :=
  if n.kind = 1 then [put (linesOf (fileAt f n.file))]
  else if n.kind = 2 then splitLines (linesOf (ins.getD 0 [])) n.wide.toNat
  else if n.kind = 3 then [put (linesC n.c (linesOf (ins.getD 0 [])))]
  else if n.kind = 4 then [put (joinB n.how n.c (ins.map linesOf))]
  else []
theorem checkN_fine {n : Gp.Node} (h : checkN n = 0) : 1 ≤ n.kind ∧ n.kind ≤ 5 ∧ errN n = 0 ∧ insN n = true:=by
  unfold checkN at h
  split at h
  · cases h
  · split at h
    · rename_i h1 h2
      exact absurd h h2
    · rename_i h1 h2
      split at h
      · rename_i h3
        exact ⟨by omega,by omega,Decidable.not_not.1 h2,h3.1⟩
      · cases h
theorem checkN_shape {n : Gp.Node} (h : checkN n = 0) : (n.kind = 1 ∧ n.ins.length = 0) ∨ (n.kind = 2 ∧ n.ins.length = 1 ∧ 1 ≤ n.wide ∧ n.wide ≤ 5) ∨ (n.kind = 3 ∧ n.ins.length = 1 ∧ checkCmd n.c = 0) ∨ (n.kind = 4 ∧ 1 ≤ n.ins.length ∧ n.ins.length ≤ 5 ∧ checkJoin n.how n.c = 0) ∨ (n.kind = 5 ∧ n.ins.length = 1):=by
  obtain ⟨h1,h2,h3,h4⟩:=checkN_fine h
  have hk : n.kind = 1 ∨ n.kind = 2 ∨ n.kind = 3 ∨ n.kind = 4 ∨ n.kind = 5:=by omega
  rcases hk with k | k | k | k | k
  · refine .inl ⟨k,?_⟩
    simp [insN,k] at h4
    omega
  · refine .inr (.inl ⟨k,?_⟩)
    simp [insN,k] at h4
    simp [errN,k] at h3
    omega
  · refine .inr (.inr (.inl ⟨k,?_,?_⟩))
    · simp [insN,k] at h4
      omega
    · simpa [errN,k] using h3
  · refine .inr (.inr (.inr (.inl ⟨k,?_,?_,?_⟩)))
    · simp [insN,k] at h4
      omega
    · simp [insN,k] at h4
      omega
    · simpa [errN,k] using h3
  · refine .inr (.inr (.inr (.inr ⟨k,?_⟩)))
    simp [insN,k] at h4
    omega
theorem makeN_outs {n : Gp.Node} {f : List FileS} {ins : List Bs} (h : checkN n = 0) : ((makeN n f ins).length : Int) = outsN n:=by
  unfold makeN outsN
  rcases checkN_shape h with ⟨k,e⟩ | ⟨k,e,w1,w2⟩ | ⟨k,e,hc⟩ | ⟨k,e1,e2,hc⟩ | ⟨k,e⟩
  · rw [if_pos k,if_neg (by omega),if_neg (by omega)]; rfl
  · rw [if_neg (by omega),if_pos k,if_pos k]
    simp [splitLines]
    omega
  · rw [if_neg (by omega),if_neg (by omega),if_pos k,if_neg (by omega),if_neg (by omega)]; rfl
  · rw [if_neg (by omega),if_neg (by omega),if_neg (by omega),if_pos k,if_neg (by omega),if_neg (by omega)]; rfl
  · rw [if_neg (by omega),if_neg (by omega),if_neg (by omega),if_neg (by omega),if_neg (by omega),if_pos k]; rfl
def portAt (out : List (List Bs)) (p : Port) : Bs:=(out.getD p.node.toNat []).getD p.out.toNat []
def insOf (out : List (List Bs)) (l : List Port) : List Bs:=l.map (portAt out)
def tot (G : List (List Bs)) : Nat:=G.flatten.flatten.length
theorem mget_put {α : Type} (z : α) : ∀ (l : List (List Int × α)) (k : List Int) (a : α) (k' : List Int),mget z (mput l k a) k' = if k = k' then a else mget z l k'
  | [],k,a,k'=>by simp [mput,mget]
  | (j,b) :: r,k,a,k'=>by
    unfold mput
    by_cases h : j = k
    · subst h
      simp only [if_true,mget]
      split <;> rfl
    · simp only [h,if_false,mget,mget_put z r k a k']
      by_cases h1 : j = k'
      · subst h1
        have h2 : ¬ k = j:=fun e=>h e.symm
        simp [h2]
      · simp [h1]
structure Left (N : List Gp.Node) (out : List (List Bs)) (u : Ents) (G : List (List Bs)) : Prop where
  len : G.length = out.length
  outs : ∀ k (h : k < out.length),∃ h2 : k < N.length,(out[k].length : Int) = outsN N[k]
  each : ∀ k,(G.getD k []).length = (out.getD k []).length
  same : ∀ (k o : Nat),mget false u [(k : Int),(o : Int)] = false → (G.getD k []).getD o [] = (out.getD k []).getD o []
theorem getD_app {α : Type} (l r : List α) (d : α) {k : Nat} (h : k < l.length) : (l ++ r).getD k d = l.getD k d:=by
  rw [List.getD_eq_getElem?_getD,List.getElem?_append_left h,← List.getD_eq_getElem?_getD]
theorem getD_app2 {α : Type} (l r : List α) (d : α) {k : Nat} (h : l.length ≤ k) : (l ++ r).getD k d = r.getD (k - l.length) d:=by
  rw [List.getD_eq_getElem?_getD,List.getElem?_append_right h,← List.getD_eq_getElem?_getD]
def Upto (N : List Gp.Node) (out : List (List Bs)) : Prop:=∃ o u G,nodesGo N out.length (N.drop out.length) o u = 0 ∧ Left N out u G ∧ tot G ≤ 4100 * out.length
end Gv
end PartP14
section PartP15
namespace Gv
open Go Gp
end Gv
end PartP15
section PartP16
namespace Gv
open Go Gp
def useAll : List Port → Ents → Ents
  | [],u=>u
  | p :: r,u=>useAll r (mput u [p.node,p.out] true)
theorem mput_new {k : List Int} : ∀ {u : Ents},(∀ e ∈ u,e.2 = true) → mget false u k = false → mput u k true = u ++ [(k,true)]
  | [],_,_=>rfl
  | (j,b) :: r,h,hm=>by
    have hb : b = true:=h (j,b) (List.mem_cons_self ..)
    unfold mget at hm
    unfold mput
    split
    · rename_i e
      rw [if_pos e,hb] at hm
      cases hm
    · rename_i e
      rw [if_neg e] at hm
      rw [mput_new (fun x hx=>h x (List.mem_cons_of_mem _ hx)) hm]
      rfl
def Of (M : List Gp.Node) (p : Port) : Prop:=∃ k o : Nat,p = ⟨k,o⟩ ∧ ∃ h : k < M.length,(o : Int) < outsN M[k]
theorem useAll_ok {M : List Gp.Node} : ∀ {l : List Port} {u : Ents}, (∀ p ∈ l, Of M p ∧ mget false u [p.node, p.out] = false) → l.Nodup → (∀ e ∈ u, e.2 = true ∧ ∃ a b : Int, e.1 = [a, b] ∧ a < M.length) →
    (∀ N,M <+: N → portsGo N M.length l u = (0,useAll l u)) ∧ (useAll l u).length = u.length + l.length ∧ (∀ e ∈ useAll l u,e.2 = true ∧ ∃ a b : Int,e.1 = [a,b] ∧ a < M.length) ∧ ∀ a b : Int,(⟨a,b⟩ : Port) ∉ l → mget false (useAll l u) [a,b] = mget false u [a,b]
  | [],u,_,_,hu=>⟨fun N _=>rfl,rfl,hu,fun a b _=>rfl⟩
  | p :: r,u,hp,hn,hu=>by
    rw [List.nodup_cons] at hn
    obtain ⟨⟨k,o,rfl,hk,ho⟩,hm⟩:=hp p (List.mem_cons_self ..)
    have hput:=mput_new (fun e he=>(hu e he).1) hm
    have hu2 : ∀ e ∈ mput u [(k : Int),(o : Int)] true,e.2 = true ∧ ∃ a b : Int,e.1 = [a,b] ∧ a < M.length:=fun e he=>by
      rw [hput] at he
      rcases List.mem_append.1 he with he | he
      · exact hu e he
      · rw [List.mem_singleton] at he
        subst he
        exact ⟨rfl,k,o,rfl,by omega⟩
    have hp2 : ∀ q ∈ r,Of M q ∧ mget false (mput u [(k : Int),(o : Int)] true) [q.node,q.out] = false:=fun q hq=>by
      obtain ⟨h1,h2⟩:=hp q (List.mem_cons_of_mem _ hq)
      refine ⟨h1,?_⟩
      rw [mget_put,if_neg ?_]
      · exact h2
      · intro e
        apply hn.1
        have e1 : (k : Int) = q.node:=by simpa using (List.cons.inj e).1
        have e2 : (o : Int) = q.out:=by simpa using (List.cons.inj (List.cons.inj e).2).1
        rw [e1,e2]
        exact hq
    obtain ⟨i1,i2,i3,i4⟩:=useAll_ok hp2 hn.2 hu2
    refine ⟨fun N hN=>?_,?_,i3,fun a b hab=>?_⟩
    · have hg : N.getD k ⟨0, [], zCmd, 0, 0, []⟩ = M[k] := by
        obtain ⟨t,rfl⟩:=hN
        rw [getD_app _ _ _ hk,List.getD_eq_getElem?_getD,List.getElem?_eq_getElem hk]; rfl
      rw [portsGo,if_neg ?_,if_neg (by simp [hm]),i1 N hN]
      · rfl
      · show ¬ ((k : Int) < 0 ∨ (M.length : Int) ≤ (k : Int) ∨ (o : Int) < 0 ∨ outsN (N.getD (k : Int).toNat _) ≤ (o : Int))
        rw [Int.toNat_natCast,hg]
        omega
    · show (useAll r _).length = _
      rw [i2,hput,List.length_append]
      simp only [List.length_cons,List.length_nil]
      omega
    · show mget false (useAll r _) [a,b] = _
      rw [i4 a b fun h=>hab (List.mem_cons_of_mem _ h),mget_put,if_neg ?_]
      intro e
      apply hab
      have e1 : (k : Int) = a:=by simpa using (List.cons.inj e).1
      have e2 : (o : Int) = b:=by simpa using (List.cons.inj (List.cons.inj e).2).1
      rw [← e1,← e2]
      exact List.mem_cons_self ..
structure Good (M : List Gp.Node) (cur : List Port) : Prop where
  go : ∃ (o : Int) (u : Ents),(∀ N,M <+: N → M.length < N.length → nodesGo N 0 N 0 [] = nodesGo N M.length (N.drop M.length) o u) ∧ (u.length : Int) + cur.length = o ∧ (∀ e ∈ u,e.2 = true ∧ ∃ a b : Int,e.1 = [a,b] ∧ a < M.length) ∧ ∀ p ∈ cur,Of M p ∧ mget false u [p.node,p.out] = false
  nd : cur.Nodup
  no5 : ∀ n ∈ M,n.kind ≠ 5
theorem Of.more {M : List Gp.Node} {p : Port} (h : Of M p) (n : Gp.Node) : Of (M ++ [n]) p:=by
  obtain ⟨k,o,e,hk,ho⟩:=h
  refine ⟨k,o,e,by rw [List.length_append]; omega,?_⟩
  rw [List.getElem_append_left hk]
  exact ho
theorem Good.node {M : List Gp.Node} {rest : List Port} {n : Gp.Node} (h : Good M (n.ins ++ rest)) (hc : checkN n = 0) (hk : n.kind ≠ 5) : Good (M ++ [n]) (rest ++ ports M.length (outsN n).toNat):=by
  obtain ⟨⟨o,u,h1,h2,h3,h4⟩,hn,h5⟩:=h
  rw [List.nodup_append] at hn
  obtain ⟨hn1,hn2,hn3⟩:=hn
  obtain ⟨j1,j2,j3,j4⟩:=useAll_ok (fun p hp=>h4 p (List.mem_append_left _ hp)) hn1 h3
  have hob:=outsN_bnd hc
  refine ⟨⟨o + outsN n,useAll n.ins u,fun N hN hlt=>?_,?_,fun e he=>?_,fun p hp=>?_⟩,?_,fun x hx=>?_⟩
  · rw [List.length_append,List.length_singleton] at hlt ⊢
    have hM : M <+: N:=(List.prefix_append M [n]).trans hN
    have hlt2 : M.length < N.length:=by omega
    have hNn : N[M.length] = n:=by
      obtain ⟨t,rfl⟩:=hN
      rw [List.getElem_append_left (by simp)]
      simp
    rw [h1 N hM hlt2,nodesGo_at hlt2,hNn,hc,if_neg (by simp),j1 N hM,if_neg (by simp),if_neg ?_]
    rw [Decidable.not_not]
    rw [decide_eq_false hk,decide_eq_false (by omega)]
  · rw [List.length_append] at h2
    rw [List.length_append,ports_len,j2]
    omega
  · obtain ⟨e1,a,b,e2,e3⟩:=j3 e he
    refine ⟨e1,a,b,e2,?_⟩
    rw [List.length_append]
    omega
  · rcases List.mem_append.1 hp with hp | hp
    · obtain ⟨k1,k2⟩:=h4 p (List.mem_append_right _ hp)
      refine ⟨k1.more n,?_⟩
      rw [j4 p.node p.out ?_]
      · exact k2
      · intro hq
        exact hn3 _ hq _ hp rfl
    · obtain ⟨j,hj,rfl⟩:=List.mem_map.1 hp
      rw [List.mem_range] at hj
      refine ⟨⟨M.length,j,rfl,by rw [List.length_append,List.length_singleton]; omega,?_⟩,?_⟩
      · simp only [List.getElem_append_right (Nat.le_refl _)]
        simp
        omega
      · show mget false (useAll n.ins u) [(M.length : Int),(j : Int)] = false
        have nokey : ∀ (w : Ents),(∀ e ∈ w,e.2 = true ∧ ∃ a b : Int,e.1 = [a,b] ∧ a < M.length) → mget false w [(M.length : Int),(j : Int)] = false:=by
          intro w
          induction w with
          | nil=>intro _; rfl
          | cons e r ih =>
            intro hw
            obtain ⟨ks,v⟩:=e
            obtain ⟨-,a,b,e2,e3⟩:=hw _ (List.mem_cons_self ..)
            unfold mget
            rw [if_neg ?_]
            · exact ih fun x hx=>hw x (List.mem_cons_of_mem _ hx)
            · intro e4
              have e2 : ks = [a,b]:=e2
              rw [e2] at e4
              have:=(List.cons.inj e4).1
              omega
        exact nokey _ j3
  · rw [List.nodup_append]
    refine ⟨hn2,?_,fun a ha b hb e=>?_⟩
    · unfold ports
      exact List.pairwise_map.2 (List.nodup_range.imp fun h e=>h (by have e2:=congrArg Port.out e; simp at e2; omega))
    · subst e
      obtain ⟨j,hj,e⟩:=List.mem_map.1 hb
      obtain ⟨⟨k,o2,e2,hk2,-⟩,-⟩:=h4 a (List.mem_append_right _ ha)
      rw [e2] at e
      have:=congrArg Port.node e
      simp at this
      omega
  · rcases List.mem_append.1 hx with hx | hx
    · exact h5 x hx
    · rw [List.mem_singleton] at hx
      subst hx; exact hk
end Gv
end PartP16
section PartP17
namespace Gv
open Go Gp
def outOf (f : List FileS) (M : List Gp.Node) : List (List Bs):=M.foldl (fun out n=>out ++ [makeN n f (insOf out n.ins)]) []
theorem outOf_snoc (f : List FileS) (M : List Gp.Node) (n : Gp.Node) : outOf f (M ++ [n]) = outOf f M ++ [makeN n f (insOf (outOf f M) n.ins)]:=by
  unfold outOf
  rw [List.foldl_append]
  rfl
theorem outOf_len (f : List FileS) (M : List Gp.Node) : (outOf f M).length = M.length:=by
  suffices h : ∀ (M : List Gp.Node) (out : List (List Bs)),(M.foldl (fun out n=>out ++ [makeN n f (insOf out n.ins)]) out).length = out.length + M.length by simpa [outOf] using h M []
  intro M
  induction M with
  | nil=>intro out; rfl
  | cons n r ih =>
    intro out
    rw [List.foldl_cons,ih,List.length_append]
    simp only [List.length_cons,List.length_nil]
    omega
structure St (f : List FileS) (M : List Gp.Node) (cur : List Port) (vals : List Bs) : Prop where
  good : Good M cur
  val : insOf (outOf f M) cur = vals
theorem St.len {f : List FileS} {M : List Gp.Node} {cur : List Port} {vals : List Bs} (h : St f M cur vals) : vals.length = cur.length:=by
  rw [← h.val]
  simp [insOf]
theorem St.node {f : List FileS} {M : List Gp.Node} {n : Gp.Node} {rest : List Port} {vi vr : List Bs} (h : St f M (n.ins ++ rest) (vi ++ vr)) (hl : vi.length = n.ins.length) (hc : checkN n = 0) (hk : n.kind ≠ 5) : St f (M ++ [n]) (rest ++ ports M.length (outsN n).toNat) (vr ++ makeN n f vi):=by
  have hv:=h.val
  unfold insOf at hv
  rw [List.map_append] at hv
  obtain ⟨v1,v2⟩:=List.append_inj hv (by rw [List.length_map]; exact hl.symm)
  refine ⟨h.good.node hc hk,?_⟩
  rw [outOf_snoc]
  have e1 : insOf (outOf f M) n.ins = vi:=v1
  rw [e1]
  have hx:=makeN_outs (f:=f) (ins:=vi) hc
  obtain ⟨x,hxe⟩ : ∃ x,makeN n f vi = x:=⟨_,rfl⟩
  rw [hxe] at hx ⊢
  have hxl : (outsN n).toNat = x.length:=by omega
  rw [hxl]
  unfold insOf
  rw [List.map_append]
  congr 1
  · rw [← v2]
    refine List.map_congr_left fun p hp=>?_
    obtain ⟨o,u,-,-,-,h4⟩:=h.good.go
    obtain ⟨⟨k,o2,rfl,hk2,-⟩,-⟩:=h4 p (List.mem_append_right _ hp)
    have hk3 : k < (outOf f M).length:=by rw [outOf_len]; exact hk2
    unfold portAt
    show ((outOf f M ++ [x]).getD (k : Int).toNat []).getD _ [] = ((outOf f M).getD (k : Int).toNat []).getD _ []
    rw [Int.toNat_natCast,getD_app _ _ _ hk3]
  · unfold ports
    rw [List.map_map]
    refine List.ext_getElem (by simp) fun j h1 h2=>?_
    simp only [List.getElem_map,List.getElem_range,Function.comp]
    show ((outOf f M ++ [x]).getD (M.length : Int).toNat []).getD (j : Int).toNat [] = x[j]
    rw [Int.toNat_natCast,Int.toNat_natCast,getD_app2 _ _ _ (by rw [outOf_len]; exact Nat.le_refl _),outOf_len,Nat.sub_self]
    show x.getD j [] = x[j]
    rw [List.getD_eq_getElem?_getD,List.getElem?_eq_getElem h2]
    rfl
end Gv
end PartP17
section PartP18
namespace Gv
open Go Gp
end Gv
end PartP18
section PartP19
namespace Gv
open Go Gp
end Gv
end PartP19
section PartP20
namespace Gv
open Go Gp
end Gv
end PartP20
section PartS1
namespace Gv
open Go Gp
theorem index_cases (s sep : Bs) : Lib.index s sep = -1 ∨ ∃ i : Nat,Lib.index s sep = i ∧ i + sep.length ≤ s.length:=by
  have h1:=Lib.index_ge s sep
  rcases Decidable.em (Lib.index s sep = -1) with h | h
  · exact .inl h
  · have h2:=Lib.index_room s sep (by omega)
    exact .inr ⟨(Lib.index s sep).toNat,by omega,by omega⟩
theorem countFrom_fuel {sub : Bs} (h : sub ≠ []) : ∀ (n m : Nat) (s : Bs),s.length < n → s.length < m → Lib.countFrom sub n s = Lib.countFrom sub m s
  | 0,_,s,h1,_=>by omega
  | _,0,s,_,h2=>by omega
  | n + 1,m + 1,s,h1,h2=>by
    unfold Lib.countFrom
    rcases index_cases s sub with e | ⟨i,e,hi⟩
    · rw [e]; rfl
    · rw [e]
      have : ((i : Int) == -1) = false:=by simp
      rw [this]
      have hl : 0 < sub.length:=List.length_pos_iff.2 h
      have:=countFrom_fuel h n m (s.drop (i + sub.length)) (by rw [List.length_drop]; omega) (by rw [List.length_drop]; omega)
      simp only [Bool.false_eq_true,if_false,Int.toNat_natCast,this]
theorem split_miss {s sep : Bs} (h : Lib.index s sep = -1) : Lib.split s sep = [s]:=by
  unfold Lib.split Lib.count Lib.countFrom
  rw [h]
  rfl
theorem split_hit {s sep : Bs} (hs : sep ≠ []) {i : Nat} (h : Lib.index s sep = i) (hi : i + sep.length ≤ s.length) : Lib.split s sep = s.take i :: Lib.split (s.drop (i + sep.length)) sep:=by
  have hl : 0 < sep.length:=List.length_pos_iff.2 hs
  have e : ((i : Int) == -1) = false:=by simp
  have hc : Lib.count s sep = Lib.count (s.drop (i + sep.length)) sep + 1:=by
    unfold Lib.count
    conv=>lhs; unfold Lib.countFrom
    rw [h,e]
    simp only [Bool.false_eq_true,if_false,Int.toNat_natCast]
    rw [countFrom_fuel hs s.length ((s.drop (i + sep.length)).length + 1) _ (by rw [List.length_drop]; omega) (by omega)]
    omega
  unfold Lib.split
  rw [hc]
  conv=>lhs; unfold Lib.splitK
  rw [h]
  simp only [e,Bool.false_eq_true,if_false,Int.toNat_natCast,Nat.add_zero]
theorem join_cons (a : Bs) {l : List Bs} (h : l ≠ []) (sep : Bs) : Lib.join (a :: l) sep = a ++ sep ++ Lib.join l sep:=by
  cases l with
  | nil=>exact absurd rfl h
  | cons b r =>
    unfold Lib.join
    simp [List.intercalate,List.intersperse]
theorem join_one (a sep : Bs) : Lib.join [a] sep = a:=by simp [Lib.join,List.intercalate]
theorem take_mid {s sep : Bs} {i : Nat} (ho : Lib.occAt s sep i = true) : s = s.take i ++ sep ++ s.drop (i + sep.length):=by
  unfold Lib.occAt at ho
  obtain ⟨t,ht⟩:=List.isPrefixOf_iff_prefix.1 ho
  have h1 : s.drop (i + sep.length) = t:=by
    rw [← List.drop_drop,← ht,List.drop_left]
  rw [h1,List.append_assoc,ht,List.take_append_drop]
theorem index_occ {s sep : Bs} {i : Nat} (h : Lib.index s sep = i) : Lib.occAt s sep i = true:=by
  rcases Lib.index_spec s sep with ⟨h1,-⟩ | ⟨j,h1,h2,h3,-⟩
  · omega
  · have : i = j:=by omega
    subst this; exact h3
theorem join_split {sep : Bs} (hs : sep ≠ []) : ∀ (n : Nat) (s : Bs),s.length ≤ n → Lib.join (Lib.split s sep) sep = s:=by
  intro n
  induction n with
  | zero =>
    intro s h
    have h0 : s = []:=List.length_eq_zero_iff.1 (by omega)
    subst h0
    rcases index_cases [] sep with e | ⟨i,e,hi⟩
    · rw [split_miss e,join_one]
    · have:=List.length_pos_iff.2 hs
      have hi : i + sep.length ≤ 0:=hi
      omega
  | succ n ih =>
    intro s h
    rcases index_cases s sep with e | ⟨i,e,hi⟩
    · rw [split_miss e,join_one]
    · have hl:=List.length_pos_iff.2 hs
      rw [split_hit hs e hi,join_cons _ (split_ne _ _),ih _ (by rw [List.length_drop]; omega)]
      exact (take_mid (index_occ e)).symm
theorem index3 {a b c : UInt8} (hab : a ≠ b) {p : Bs} (hp : b ∉ p) (r : Bs) : Lib.index (p ++ [a,b,c] ++ r) [a,b,c] = (p.length : Int):=by
  refine Lib.index_first (by simp) ?_ fun j hj=>?_
  · unfold Lib.occAt
    rw [List.append_assoc,List.drop_left]
    exact List.isPrefixOf_iff_prefix.2 (List.prefix_append _ _)
  · refine Bool.eq_false_iff.2 fun h=>?_
    have h2:=Lib.occAt_second (c0:=a) (c1:=b) (t:=[c]) rfl h
    rw [List.append_assoc] at h2
    rcases Nat.lt_or_ge (j + 1) p.length with h3 | h3
    · rw [List.getElem?_append_left h3] at h2
      exact hp (List.mem_of_getElem? h2)
    · have : j + 1 = p.length:=by omega
      rw [List.getElem?_append_right (by omega),this,Nat.sub_self] at h2
      simp at h2
      exact hab h2
theorem index3_no {a b c : UInt8} {s : Bs} (h : b ∉ s) : Lib.index s [a,b,c] = -1:=by
  refine Lib.index_none fun j _=>Bool.eq_false_iff.2 fun h2=>?_
  exact h (List.mem_of_getElem? (Lib.occAt_second (c0:=a) (c1:=b) (t:=[c]) rfl h2))
theorem split_join3 {a b c : UInt8} (hab : a ≠ b) : ∀ (l : List Bs),l ≠ [] → (∀ p ∈ l,b ∉ p) → Lib.split (Lib.join l [a,b,c]) [a,b,c] = l
  | [],h,_=>absurd rfl h
  | [p],_,h=>by rw [join_one,split_miss (index3_no (h p (by simp)))]
  | p :: q :: r,_,h=>by
    have hp:=h p (by simp)
    rw [join_cons _ (by simp)]
    rw [split_hit (by simp) (index3 hab hp _) (by simp)]
    have e1 : (p ++ [a,b,c] ++ Lib.join (q :: r) [a,b,c]).take p.length = p:=by rw [List.append_assoc,List.take_left]
    have e2 : (p ++ [a,b,c] ++ Lib.join (q :: r) [a,b,c]).drop (p.length + [a,b,c].length) = Lib.join (q :: r) [a,b,c]:=by
      rw [show p.length + [a,b,c].length = (p ++ [a,b,c]).length by simp,List.drop_left]
    rw [e1,e2,split_join3 hab (q :: r) (by simp) fun x hx=>h x (List.mem_cons_of_mem _ hx)]
theorem split_join1 {a : UInt8} : ∀ (l : List Bs),l ≠ [] → (∀ p ∈ l,a ∉ p) → Lib.split (Lib.join l [a]) [a] = l
  | [],h,_=>absurd rfl h
  | [p],_,h=>by rw [join_one,split_no (h p (by simp))]
  | p :: q :: r,_,h=>by
    rw [join_cons _ (by simp),List.append_assoc]
    show Lib.split (p ++ a :: Lib.join (q :: r) [a]) [a] = _
    rw [split_at (h p (by simp)),split_join1 (q :: r) (by simp) fun x hx=>h x (List.mem_cons_of_mem _ hx)]
theorem cut_miss {s sep : Bs} (h : Lib.index s sep = -1) : Lib.cut s sep = (s,[],false):=by
  unfold Lib.cut
  rw [h]
  rfl
theorem cut_hit {s sep : Bs} {i : Nat} (h : Lib.index s sep = i) : Lib.cut s sep = (s.take i,s.drop (i + sep.length),true):=by
  unfold Lib.cut
  rw [h,if_pos (by omega),Int.toNat_natCast]
theorem cut3 {a b c : UInt8} (hab : a ≠ b) {p : Bs} (hp : b ∉ p) (r : Bs) : Lib.cut (p ++ [a,b,c] ++ r) [a,b,c] = (p,r,true):=by
  rw [cut_hit (index3 hab hp r)]
  rw [List.append_assoc,List.take_left,← List.append_assoc,show p.length + [a,b,c].length = (p ++ [a,b,c]).length by simp,List.drop_left]
theorem cut1 {a : UInt8} {p : Bs} (hp : a ∉ p) (r : Bs) : Lib.cut (p ++ a :: r) [a] = (p,r,true):=by
  rw [cut_hit (idx_at hp r),List.take_left]
  have : (p ++ a :: r).drop (p.length + [a].length) = r:=by
    rw [show p ++ a :: r = (p ++ [a]) ++ r by simp,show p.length + [a].length = (p ++ [a]).length by simp,List.drop_left]
  rw [this]
theorem cut_true {s sep : Bs} (h : (Lib.cut s sep).2.2 = true) : s = (Lib.cut s sep).1 ++ sep ++ (Lib.cut s sep).2.1:=by
  rcases index_cases s sep with e | ⟨i,e,hi⟩
  · rw [cut_miss e] at h; cases h
  · rw [cut_hit e]
    exact take_mid (index_occ e)
def wordsL : List Bs:=[[],[107,101,101,112],[100,114,111,112],[115,119,97,112],[102,105,101,108,100],[116,117,114,110],[115,111,114,116],[111,110,99,101],[99,111,117,110,116],[104,101,97,100],[116,97,105,108]]
def verb (k : Int) : Bs:=wordsL.getD k.toNat []
def barB : Bs:=[32,124,32]
def toB : Bs:=[32,62,32]
def textC (c : Cmd) : Bs:=verb c.kind ++ (if c.word ≠ [] then 32 :: c.word else []) ++ (if 0 < c.n then 32 :: Lib.itoa c.n else [])
def textCs (l : List Cmd) : Bs:=(l.map fun c=>barB ++ textC c).flatten
def textL (x : LineS) : Bs:=Lib.join x.frm [32] ++ textCs x.cmds ++ (toB ++ x.to)
def printL (x : LineS) : Bs:=textL x ++ [10]
def linesBad : List LineS → Int
  | []=>0
  | x :: r=>if checkLine x ≠ 0 then checkLine x else linesBad r
def checkS (l : List LineS) : Int:=if 6 < l.length then 2 else linesBad l
def printS (l : List LineS) : Bs × Int:=if checkS l ≠ 0 then ([],checkS l) else ((l.map printL).flatten,0)
end Gv
end PartS1
section PartS2
namespace Gv
open Go Gp
def kindOf (w : Bs) : Nat:=if wordsL.tail.idxOf w < 10 then wordsL.tail.idxOf w + 1 else 0
def atoiB (s : Bs) : Option Int:=match Lib.atoiAll s with | .ok k=>if Lib.itoa k = s then some k else none | _=>none
def parseC (s : Bs) : Option Cmd :=
  let w:=Lib.split s [32]
  let k:=kindOf (w.getD 0 [])
  if k = 0 then none
  else if k = 1 ∨ k = 2 ∨ k = 3 then (if w.length ≠ 2 then none else some ⟨(k : Int),w.getD 1 [],0⟩)
  else if k = 4 ∨ k = 9 ∨ k = 10 then (if w.length ≠ 2 then none else match atoiB (w.getD 1 []) with | some n=>some ⟨(k : Int),[],n⟩ | none=>none)
  else if w.length = 1 then some ⟨(k : Int),[],0⟩ else none
def parseCs : List Bs → Option (List Cmd)
  | []=>some []
  | p :: r=>match parseC p with
    | some c=>(match parseCs r with | some l=>some (c :: l) | none=>none)
    | none=>none
def zLine : LineS:=⟨[],[],[]⟩
def lineP (t : Bs) : LineS × Int :=
  if (Lib.cut t toB).2.2 = false then (zLine,1)
  else match parseCs (Lib.split (Lib.cut t toB).1 barB).tail with
    | none=>(zLine,1)
    | some cs=>let x : LineS:=⟨Lib.split ((Lib.split (Lib.cut t toB).1 barB).getD 0 []) [32],cs,(Lib.cut t toB).2.1⟩
      (x,checkLine x)
def parseGo : Nat → Bs → Nat → List LineS → List LineS × Int × Int
  | 0,_,_,l=>(l,0,0)
  | n + 1,s,i,l =>
    if s = [] then (if checkS l ≠ 0 then ([],0,checkS l) else (l,0,0))
    else if (Lib.cut s [10]).2.2 = false then ([],(i : Int),1)
    else if (lineP (Lib.cut s [10]).1).2 ≠ 0 then ([],(i : Int),(lineP (Lib.cut s [10]).1).2)
    else parseGo n (Lib.cut s [10]).2.1 (i + 1) (l ++ [(lineP (Lib.cut s [10]).1).1])
def parseS (s : Bs) : List LineS × Int × Int:=if 8000 < s.length then ([],0,2) else parseGo (s.length + 1) s 0 []
theorem word_of {s : Bs} (h : isWord s = true) : s ≠ [] ∧ s.length ≤ 12 ∧ ∀ c ∈ s,wordByte c = true:=by
  unfold isWord at h
  simp only [Bool.and_eq_true,decide_eq_true_eq,List.all_eq_true] at h
  exact ⟨h.1.1,h.1.2,h.2⟩
theorem word_no {s : Bs} (h : isWord s = true) {c : UInt8} (hc : wordByte c = false) : c ∉ s:=fun hm=>by
  rw [(word_of h).2.2 c hm] at hc; cases hc
theorem line_of {x : LineS} (h : checkLine x = 0) : x.frm ≠ [] ∧ (∀ s ∈ x.frm,isWord s = true) ∧ isWord x.to = true ∧ ∀ c ∈ x.cmds,checkCmd c = 0:=by
  unfold checkLine at h
  split at h
  · cases h
  · rename_i h1
    split at h
    · cases h
    · rename_i h2
      have h2 : (x.frm ++ [x.to]).all isWord = true:=by simpa using h2
      rw [List.all_eq_true] at h2
      exact ⟨fun e=>h1 (.inl (by rw [e]; rfl)),fun s hs=>h2 s (List.mem_append_left _ hs),h2 _ (by simp),firstBad_at h⟩
def plainB (c : UInt8) : Bool:=c != 10 && c != 124 && c != 62
theorem plain_word {s : Bs} (h : isWord s = true) : ∀ c ∈ s,plainB c = true:=fun c hc=>by
  have:=(word_of h).2.2 c hc
  unfold wordByte at this
  unfold plainB
  simp only [Bool.or_eq_true,Bool.and_eq_true,decide_eq_true_eq,bne_iff_ne,ne_eq] at this ⊢
  refine ⟨⟨fun e=>?_,fun e=>?_⟩,fun e=>?_⟩ <;> subst e <;> revert this <;> decide
end Gv
end PartS2
section PartS3
namespace Gv
open Go Gp
theorem gd2_0 (a b : Bs) : [a,b].getD 0 [] = a:=rfl
theorem gd2_1 (a b : Bs) : [a,b].getD 1 [] = b:=rfl
theorem gd_0 (a : Bs) (l : List Bs) : (a :: l).getD 0 [] = a:=rfl
theorem verb_facts : ∀ k : Nat,1 ≤ k → k ≤ 10 → kindOf (wordsL.getD k []) = k ∧ (32 : UInt8) ∉ wordsL.getD k [] ∧ ∀ c ∈ wordsL.getD k [],plainB c = true:=by
  have h : ∀ k ∈ List.range 11,1 ≤ k → kindOf (wordsL.getD k []) = k ∧ (32 : UInt8) ∉ wordsL.getD k [] ∧ ∀ c ∈ wordsL.getD k [],plainB c = true:=by decide
  exact fun k h1 h2=>h k (List.mem_range.2 (by omega)) h1
theorem itoa_dig {n : Int} (h : 0 ≤ n) {c : UInt8} (hc : c ∈ Lib.itoa n) : 48 ≤ c.toNat ∧ c.toNat ≤ 57:=by
  obtain ⟨k,rfl⟩ : ∃ k : Nat,n = k:=⟨n.toNat,by omega⟩
  rw [Lib.itoa_nonneg] at hc
  have:=dec_bytes k c hc
  omega
theorem itoa_plain {n : Int} (h : 0 ≤ n) : (32 : UInt8) ∉ Lib.itoa n ∧ ∀ c ∈ Lib.itoa n,plainB c = true:=by
  refine ⟨fun hm=>?_,fun c hc=>?_⟩
  · have:=itoa_dig h hm
    revert this; decide
  · have:=itoa_dig h hc
    unfold plainB
    simp only [Bool.and_eq_true,bne_iff_ne,ne_eq]
    refine ⟨⟨fun e=>?_,fun e=>?_⟩,fun e=>?_⟩ <;> subst e <;> revert this <;> decide
theorem cmd_cases {c : Cmd} (h : checkCmd c = 0) : (∃ k : Nat,1 ≤ k ∧ k ≤ 3 ∧ ∃ w,isWord w = true ∧ c = ⟨(k : Int),w,0⟩) ∨ (∃ k : Nat,(k = 4 ∨ k = 9 ∨ k = 10) ∧ ∃ n : Int,1 ≤ n ∧ n ≤ 1000 ∧ c = ⟨(k : Int),[],n⟩) ∨ ∃ k : Nat,5 ≤ k ∧ k ≤ 8 ∧ c = ⟨(k : Int),[],0⟩:=by
  obtain ⟨kind,word,n⟩:=c
  unfold checkCmd at h
  dsimp only at h
  split at h
  · cases h
  · rename_i h1
    split at h
    · cases h
    · rename_i h2
      split at h
      · cases h
      · rename_i h3
        split at h
        · cases h
        · rename_i h4
          obtain ⟨k,rfl⟩ : ∃ k : Nat,kind = k:=⟨kind.toNat,by omega⟩
          unfold useWord useN at *
          simp only [Bool.or_eq_true,Bool.or_eq_false_iff,decide_eq_true_eq,decide_eq_false_iff_not] at *
          rcases Nat.lt_or_ge k 4 with h5 | h5
          · refine .inl ⟨k,by omega,by omega,word,?_,?_⟩
            · cases hw : isWord word with
              | true=>rfl
              | false=>exact absurd (.inl ⟨by omega,hw⟩) h4
            · have : n = 0:=Decidable.byContradiction fun hn=>h2 (.inr ⟨by omega,hn⟩)
              rw [this]
          · have hw : word = []:=Decidable.byContradiction fun hn=>h2 (.inl ⟨by omega,hn⟩)
            subst hw
            by_cases h6 : k = 4 ∨ k = 9 ∨ k = 10
            · refine .inr (.inl ⟨k,h6,n,?_,?_,rfl⟩)
              · exact Decidable.byContradiction fun hn=>h3 ⟨by omega,.inl (by omega)⟩
              · exact Decidable.byContradiction fun hn=>h3 ⟨by omega,.inr (by omega)⟩
            · have : n = 0:=Decidable.byContradiction fun hn=>h2 (.inr ⟨by omega,hn⟩)
              subst this
              exact .inr (.inr ⟨k,by omega,by omega,rfl⟩)
theorem verb_nat (k : Nat) : verb (k : Int) = wordsL.getD k []:=by unfold verb; rw [Int.toNat_natCast]
theorem textC_word (k : Nat) {w : Bs} (hw : w ≠ []) : textC ⟨(k : Int),w,0⟩ = wordsL.getD k [] ++ 32 :: w:=by
  unfold textC
  rw [verb_nat,if_pos hw]
  simp
theorem textC_n (k : Nat) {n : Int} (hn : 1 ≤ n) : textC ⟨(k : Int),[],n⟩ = wordsL.getD k [] ++ 32 :: Lib.itoa n:=by
  unfold textC
  rw [verb_nat,if_neg (by simp),if_pos (by show 0 < n; omega)]
  simp
theorem textC_0 (k : Nat) : textC ⟨(k : Int),[],0⟩ = wordsL.getD k []:=by
  unfold textC
  rw [verb_nat]
  simp
theorem split_two {a b : Bs} (ha : (32 : UInt8) ∉ a) (hb : (32 : UInt8) ∉ b) : Lib.split (a ++ 32 :: b) [32] = [a,b]:=by
  rw [split_at ha,split_no hb]
theorem parse_text {c : Cmd} (h : checkCmd c = 0) : parseC (textC c) = some c:=by
  rcases cmd_cases h with ⟨k,k1,k2,w,hw,rfl⟩ | ⟨k,hk,n,n1,n2,rfl⟩ | ⟨k,k1,k2,rfl⟩
  · obtain ⟨v1,v2,v3⟩:=verb_facts k k1 (by omega)
    rw [textC_word k (word_of hw).1]
    unfold parseC
    rw [split_two v2 (word_no hw (by decide))]
    simp only [gd2_0,gd2_1]
    simp only [v1]
    rw [if_neg (by omega),if_pos (by omega)]
    rfl
  · obtain ⟨v1,v2,v3⟩:=verb_facts k (by omega) (by omega)
    rw [textC_n k n1]
    unfold parseC
    rw [split_two v2 (itoa_plain (by omega)).1]
    simp only [gd2_0,gd2_1]
    simp only [v1]
    rw [if_neg (by omega),if_neg (by omega),if_pos hk]
    have ha : atoiB (Lib.itoa n) = some n:=by
      obtain ⟨j,rfl⟩ : ∃ j : Nat,n = j:=⟨n.toNat,by omega⟩
      unfold atoiB
      rw [atoi_itoa (by omega)]
      simp
    rw [ha]
    rfl
  · obtain ⟨v1,v2,v3⟩:=verb_facts k (by omega) (by omega)
    rw [textC_0 k]
    unfold parseC
    rw [split_no v2]
    simp only [gd_0]
    simp only [v1]
    rw [if_neg (by omega),if_neg (by omega),if_neg (by omega)]
    rfl
theorem plain_text {c : Cmd} (h : checkCmd c = 0) : ∀ b ∈ textC c,plainB b = true:=by
  have sp : plainB 32 = true:=by decide
  rcases cmd_cases h with ⟨k,k1,k2,w,hw,rfl⟩ | ⟨k,hk,n,n1,n2,rfl⟩ | ⟨k,k1,k2,rfl⟩
  · obtain ⟨v1,v2,v3⟩:=verb_facts k k1 (by omega)
    rw [textC_word k (word_of hw).1]
    intro b hb
    rcases List.mem_append.1 hb with hb | hb
    · exact v3 b hb
    · rcases List.mem_cons.1 hb with rfl | hb
      · exact sp
      · exact plain_word hw b hb
  · obtain ⟨v1,v2,v3⟩:=verb_facts k (by omega) (by omega)
    rw [textC_n k n1]
    intro b hb
    rcases List.mem_append.1 hb with hb | hb
    · exact v3 b hb
    · rcases List.mem_cons.1 hb with rfl | hb
      · exact sp
      · exact (itoa_plain (by omega)).2 b hb
  · obtain ⟨v1,v2,v3⟩:=verb_facts k (by omega) (by omega)
    rw [textC_0 k]
    exact v3
theorem parseCs_text : ∀ {l : List Cmd},(∀ c ∈ l,checkCmd c = 0) → parseCs (l.map textC) = some l
  | [],_=>rfl
  | c :: r,h=>by
    rw [List.map_cons,parseCs,parse_text (h c (by simp)),parseCs_text fun x hx=>h x (List.mem_cons_of_mem _ hx)]
theorem body_join (a : Bs) : ∀ l : List Cmd,Lib.join (a :: l.map textC) barB = a ++ textCs l
  | []=>by rw [List.map_nil,join_one]; simp [textCs]
  | c :: r=>by
    rw [List.map_cons,join_cons _ (by simp),body_join (textC c) r]
    simp [textCs]
theorem plain_join : ∀ {l : List Bs},(∀ s ∈ l,isWord s = true) → ∀ b ∈ Lib.join l [32],plainB b = true
  | [],_=>by intro b hb; simp [Lib.join,List.intercalate] at hb
  | [s],h=>by rw [join_one]; exact plain_word (h s (by simp))
  | s :: t :: r,h=>by
    rw [join_cons _ (by simp)]
    intro b hb
    rcases List.mem_append.1 hb with hb | hb
    · rcases List.mem_append.1 hb with hb | hb
      · exact plain_word (h s (by simp)) b hb
      · have : b = 32:=by simpa using hb
        rw [this]; decide
    · exact plain_join (fun x hx=>h x (List.mem_cons_of_mem _ hx)) b hb
theorem not_in {l : Bs} (h : ∀ b ∈ l,plainB b = true) : (10 : UInt8) ∉ l ∧ (124 : UInt8) ∉ l ∧ (62 : UInt8) ∉ l :=
  ⟨fun hm=>by have:=h _ hm; revert this; decide,fun hm=>by have:=h _ hm; revert this; decide,fun hm=>by have:=h _ hm; revert this; decide⟩
theorem body_no {l : List Cmd} (h : ∀ c ∈ l,checkCmd c = 0) : (10 : UInt8) ∉ textCs l ∧ (62 : UInt8) ∉ textCs l:=by
  have hb : ∀ c ∈ l,(10 : UInt8) ∉ barB ++ textC c ∧ (62 : UInt8) ∉ barB ++ textC c:=fun c hc=>by
    have:=not_in (plain_text (h c hc))
    refine ⟨fun hm=>?_,fun hm=>?_⟩
    · rcases List.mem_append.1 hm with hm | hm
      · revert hm; decide
      · exact this.1 hm
    · rcases List.mem_append.1 hm with hm | hm
      · revert hm; decide
      · exact this.2.2 hm
  unfold textCs
  refine ⟨fun hm=>?_,fun hm=>?_⟩
  · obtain ⟨x,hx,hm⟩:=List.mem_flatten.1 hm
    obtain ⟨c,hc,rfl⟩:=List.mem_map.1 hx
    exact (hb c hc).1 hm
  · obtain ⟨x,hx,hm⟩:=List.mem_flatten.1 hm
    obtain ⟨c,hc,rfl⟩:=List.mem_map.1 hx
    exact (hb c hc).2 hm
theorem line_text {x : LineS} (h : checkLine x = 0) : lineP (textL x) = (x,0) ∧ (10 : UInt8) ∉ textL x:=by
  obtain ⟨h1,h2,h3,h4⟩:=line_of h
  have hj:=not_in (plain_join h2)
  have hb:=body_no h4
  have hno : (62 : UInt8) ∉ Lib.join x.frm [32] ++ textCs x.cmds:=fun hm=>by
    rcases List.mem_append.1 hm with hm | hm
    · exact hj.2.2 hm
    · exact hb.2 hm
  have hcut : Lib.cut (textL x) toB = (Lib.join x.frm [32] ++ textCs x.cmds,x.to,true):=by
    unfold textL
    rw [← List.append_assoc]
    exact cut3 (by decide) hno x.to
  have hsp : Lib.split (Lib.join x.frm [32] ++ textCs x.cmds) barB = Lib.join x.frm [32] :: x.cmds.map textC:=by
    rw [← body_join]
    refine split_join3 (by decide) _ (by simp) fun p hp=>?_
    rcases List.mem_cons.1 hp with rfl | hp
    · exact hj.2.1
    · obtain ⟨c,hc,rfl⟩:=List.mem_map.1 hp
      exact (not_in (plain_text (h4 c hc))).2.1
  refine ⟨?_,fun hm=>?_⟩
  · unfold lineP
    rw [hcut]
    dsimp only
    rw [if_neg (by decide),hsp,List.tail_cons,parseCs_text h4]
    simp only [gd_0]
    rw [split_join1 _ h1 fun p hp=>word_no (h2 p hp) (by decide)]
    obtain ⟨a,b,c⟩:=x
    dsimp only
    rw [h]
  · unfold textL at hm
    rcases List.mem_append.1 hm with hm | hm
    · rcases List.mem_append.1 hm with hm | hm
      · exact hj.1 hm
      · exact hb.1 hm
    · rcases List.mem_append.1 hm with hm | hm
      · revert hm; decide
      · exact (not_in (plain_word h3)).1 hm
theorem linesBad_at : ∀ {l : List LineS},linesBad l = 0 ↔ ∀ x ∈ l,checkLine x = 0
  | []=>by simp [linesBad]
  | x :: r=>by
    rw [linesBad]
    by_cases h : checkLine x ≠ 0
    · rw [if_pos h]
      constructor
      · intro h2; exact absurd h2 h
      · intro h2; exact absurd (h2 x (by simp)) h
    · rw [if_neg h,linesBad_at]
      have h:=Decidable.not_not.1 h
      constructor
      · intro h2 y hy
        rcases List.mem_cons.1 hy with rfl | hy
        · exact h
        · exact h2 y hy
      · intro h2 y hy
        exact h2 y (List.mem_cons_of_mem _ hy)
theorem checkS_of {l : List LineS} (h : checkS l = 0) : l.length ≤ 6 ∧ ∀ x ∈ l,checkLine x = 0:=by
  unfold checkS at h
  split at h
  · cases h
  · exact ⟨by omega,linesBad_at.1 h⟩
theorem checkS_ok {l : List LineS} (h : l.length ≤ 6) (h2 : ∀ x ∈ l,checkLine x = 0) : checkS l = 0:=by
  unfold checkS
  rw [if_neg (by omega)]
  exact linesBad_at.2 h2
theorem parse_print : ∀ (r : List LineS) (acc : List LineS) (n i : Nat),(r.map printL).flatten.length < n → checkS (acc ++ r) = 0 → parseGo n (r.map printL).flatten i acc = (acc ++ r,0,0)
  | [],acc,n,i,h,hc=>by
    obtain ⟨n,rfl⟩ : ∃ n',n = n' + 1:=⟨n - 1,by omega⟩
    rw [List.append_nil] at hc
    unfold parseGo
    simp [hc]
  | x :: r,acc,n,i,h,hc=>by
    obtain ⟨n,rfl⟩ : ∃ n',n = n' + 1:=⟨n - 1,by omega⟩
    obtain ⟨a1,a2⟩:=line_text ((checkS_of hc).2 x (by simp))
    have e : ((x :: r).map printL).flatten = textL x ++ 10 :: (r.map printL).flatten:=by simp [printL]
    rw [e] at h ⊢
    unfold parseGo
    rw [if_neg (by simp),cut1 a2]
    dsimp only
    rw [if_neg (by decide),a1]
    dsimp only
    rw [if_neg (by decide)]
    have:=parse_print r (acc ++ [x]) n (i + 1) (by rw [List.length_append,List.length_cons] at h; omega) (by rw [List.append_assoc]; exact hc)
    rw [this,List.append_assoc]
    rfl
theorem printS_ok {l : List LineS} (h : checkS l = 0) : printS l = ((l.map printL).flatten,0):=by
  unfold printS
  rw [if_neg (by rw [h]; decide)]
theorem script_back {l : List LineS} (h : checkS l = 0) (h8 : (l.map printL).flatten.length ≤ 8000) : parseS (l.map printL).flatten = (l,0,0):=by
  unfold parseS
  rw [if_neg (by omega),parse_print l [] _ 0 (by omega) h]
  rfl
end Gv
end PartS3
section PartS4
namespace Gv
open Go Gp
theorem join_le : ∀ {l : List Bs},(∀ s ∈ l,isWord s = true) → (Lib.join l [32]).length ≤ 13 * l.length
  | [],_=>by simp [Lib.join,List.intercalate]
  | [a],h=>by rw [join_one]; have:=(word_of (h a (by simp))).2.1; simp; omega
  | a :: b :: r,h=>by
    rw [join_cons a (by simp)]
    have h1:=(word_of (h a (by simp))).2.1
    have h2:=join_le (l:=b :: r) fun s hs=>h s (by simp [hs])
    simp only [List.length_append,List.length_cons,List.length_nil] at h2 ⊢
    omega
theorem join_ne {l : List Bs} (hl : l ≠ []) (h : ∀ s ∈ l,isWord s = true) : Lib.join l [32] ≠ []:=by
  match l,hl with
  | [a],_=>rw [join_one]; exact (word_of (h a (by simp))).1
  | a :: b :: r,_=>rw [join_cons a (by simp)]; simp
theorem cmd_print {c : Cmd} (h : checkCmd c = 0) : ∃ k : Nat,c.kind = (k : Int) ∧ k < 11 ∧ (wordsL.map V.str)[k]? = some (.str (verb c.kind)) ∧ (verb c.kind).length ≤ 5 ∧ c.word.length ≤ 12 ∧ c.n ≤ 1000:=by
  have key : ∀ k : Nat,k < 11 → (wordsL.map V.str)[k]? = some (.str (verb (k : Int))) ∧ (verb (k : Int)).length ≤ 5:=by
    intro k hk
    rw [verb_nat,List.getElem?_map]
    have : ∀ k,k < 11 → wordsL[k]? = some (wordsL.getD k []) ∧ (wordsL.getD k []).length ≤ 5:=by decide
    rw [(this k hk).1]
    exact ⟨rfl,(this k hk).2⟩
  rcases cmd_cases h with ⟨k,h1,h2,w,hw,rfl⟩ | ⟨k,h1,n,h2,h3,rfl⟩ | ⟨k,h1,h2,rfl⟩
  · exact ⟨k,rfl,by omega,(key k (by omega)).1,(key k (by omega)).2,(word_of hw).2.1,by simp⟩
  · exact ⟨k,rfl,by omega,(key k (by omega)).1,(key k (by omega)).2,by simp,h3⟩
  · exact ⟨k,rfl,by omega,(key k (by omega)).1,(key k (by omega)).2,by simp,by simp⟩
theorem line_facts {x : LineS} (h : checkLine x = 0) : 1 ≤ x.frm.length ∧ x.frm.length ≤ 4 ∧ x.cmds.length ≤ 6 ∧ (Lib.join x.frm [32]).length ≤ 52 ∧ Lib.join x.frm [32] ≠ [] ∧ x.to.length ≤ 12 ∧ ∀ c ∈ x.cmds,checkCmd c = 0:=by
  obtain ⟨h1,h2,h3,h4⟩:=line_of h
  have h5 : ¬ (x.frm.length = 0 ∨ 4 < x.frm.length ∨ 6 < x.cmds.length):=fun e=>by
    unfold checkLine at h
    rw [if_pos e] at h
    cases h
  have h6:=join_le h2
  exact ⟨by omega,by omega,by omega,by omega,join_ne h1 h2,(word_of h3).2.1,h4⟩
theorem itoa_le {n : Int} (h : 0 < n) (h2 : n ≤ 1000) : (Lib.itoa n).length ≤ 24:=itoa_len n (by omega)
theorem textCs_take (l : List Cmd) (j : Nat) (h : j < l.length) : textCs (l.take (j + 1)) = textCs (l.take j) ++ (barB ++ textC l[j]):=by
  unfold textCs
  rw [List.take_succ_eq_append_getElem h,List.map_append,List.flatten_append]
  simp only [List.map_cons,List.map_nil,List.flatten_cons,List.flatten_nil,List.append_nil]
theorem flat_take (l : List LineS) (j : Nat) (h : j < l.length) : ((l.take (j + 1)).map printL).flatten = ((l.take j).map printL).flatten ++ printL l[j]:=by
  rw [List.take_succ_eq_append_getElem h,List.map_append,List.flatten_append]
  simp only [List.map_cons,List.map_nil,List.flatten_cons,List.flatten_nil,List.append_nil]
def bldC : Bs → List V
  | []=>[.raw (.pointer none),.nil]
  | _ :: _=>[.ptr 0 0 0,.own 1]
def bldB (E : Nat) : Bs → Row
  | []=>.dead
  | c :: r=>.byt E (c :: r)
theorem split_parts {sep : Bs} (hs : sep ≠ []) : ∀ (n : Nat) (s : Bs),s.length ≤ n → Lib.split s sep ≠ [] ∧ ∀ x ∈ Lib.split s sep,x.length ≤ s.length
  | n,s,hn=>by
    rcases index_cases s sep with h | ⟨i,h,hi⟩
    · rw [split_miss h]
      exact ⟨by simp,fun x hx=>by simp at hx; subst hx; exact Nat.le_refl _⟩
    · rw [split_hit hs h hi]
      refine ⟨by simp,fun x hx=>?_⟩
      have hsp : 0 < sep.length:=List.length_pos_iff.2 hs
      rcases List.mem_cons.1 hx with rfl | hx
      · simp; omega
      · match n,hn with
        | 0,hn=>omega
        | n + 1,hn =>
          have:=(split_parts hs n (s.drop (i + sep.length)) (by simp; omega)).2 x hx
          simp at this
          omega
theorem splitS_ne (s : Bs) {sep : Bs} (hs : sep ≠ []) : Lib.split s sep ≠ []:=(split_parts hs _ s (Nat.le_refl _)).1
theorem splitS_le (s : Bs) {sep : Bs} (hs : sep ≠ []) : ∀ x ∈ Lib.split s sep,x.length ≤ s.length:=(split_parts hs _ s (Nat.le_refl _)).2
theorem kindOf_le (w : Bs) : kindOf w ≤ 10:=by unfold kindOf; split <;> omega
theorem kindOf_idx (w : Bs) : (if wordsL.tail.idxOf w < wordsL.tail.length then (wordsL.tail.idxOf w : Int) else -1) + 1 = (kindOf w : Int):=by
  unfold kindOf
  rw [show wordsL.tail.length = 10 from rfl]
  split <;> simp
end Gv
end PartS4
section PartS5
namespace Gv
open Go Gp
theorem parseCs_app : ∀ (a : List Bs) (p : Bs) (cs : List Cmd),parseCs a = some cs → parseCs (a ++ [p]) = match parseC p with | some c=>some (cs ++ [c]) | none=>none
  | [],p,cs,h=>by
    obtain rfl : [] = cs:=by simpa [parseCs] using h
    simp only [List.nil_append,parseCs]
    all_goals cases parseC p <;> rfl
  | q :: r,p,cs,h=>by
    unfold parseCs at h
    rw [List.cons_append]
    unfold parseCs
    cases hq : parseC q with
    | none=>rw [hq] at h; cases h
    | some c =>
      rw [hq] at h
      dsimp only at h ⊢
      cases hr : parseCs r with
      | none=>rw [hr] at h; cases h
      | some l =>
        rw [hr] at h
        dsimp only at h
        cases h
        rw [parseCs_app r p l hr]
        cases parseC p <;> rfl
theorem parseCs_none : ∀ (a b : List Bs) (p : Bs),parseC p = none → parseCs (a ++ p :: b) = none
  | [],b,p,h=>by simp only [List.nil_append,parseCs,h]
  | q :: r,b,p,h=>by
    rw [List.cons_append]
    unfold parseCs
    rw [parseCs_none r b p h]
    cases parseC q <;> rfl
theorem parseCs_step {l : List Bs} {j : Nat} {cs : List Cmd} (hj : j < l.length) (h : parseCs (l.take j) = some cs) : (parseC l[j] = none → parseCs l = none) ∧ ∀ c,parseC l[j] = some c → parseCs (l.take (j + 1)) = some (cs ++ [c]):=by
  refine ⟨fun h1=>?_,fun c h1=>?_⟩
  · have:=parseCs_none (l.take j) (l.drop (j + 1)) l[j] h1
    rwa [List.getElem_cons_drop,List.take_append_drop] at this
  · rw [List.take_succ_eq_append_getElem hj,parseCs_app _ _ _ h,h1]
theorem parseGo_end {n i : Nat} {l : List LineS} : parseGo (n + 1) [] i l = if checkS l ≠ 0 then ([],0,checkS l) else (l,0,0):=by
  rw [parseGo,if_pos rfl]
theorem parseGo_step {n i : Nat} {s : Bs} {l : List LineS} (h : s ≠ []) : parseGo (n + 1) s i l = if (Lib.cut s [10]).2.2 = false then ([], (i : Int), 1)
    else if (lineP (Lib.cut s [10]).1).2 ≠ 0 then ([],(i : Int),(lineP (Lib.cut s [10]).1).2)
    else parseGo n (Lib.cut s [10]).2.1 (i + 1) (l ++ [(lineP (Lib.cut s [10]).1).1]):=by
  rw [parseGo,if_neg h]
theorem cutB_le (s sep : Bs) : (Lib.cut s sep).1.length ≤ s.length ∧ (Lib.cut s sep).2.1.length ≤ s.length:=by
  rcases index_cases s sep with h | ⟨i,h,hi⟩
  · rw [cut_miss h]; simp
  · rw [cut_hit h]
    exact ⟨by simp; omega,by simp⟩
theorem lineP_to {t : Bs} (h : (Lib.cut t toB).2.2 = false) : lineP t = (zLine,1):=by unfold lineP; rw [if_pos h]
theorem lineP_none {t : Bs} (h : (Lib.cut t toB).2.2 = true) (h2 : parseCs (Lib.split (Lib.cut t toB).1 barB).tail = none) : lineP t = (zLine,1):=by unfold lineP; rw [if_neg (by rw [h]; decide),h2]
theorem lineP_some {t : Bs} {cs : List Cmd} (h : (Lib.cut t toB).2.2 = true) (h2 : parseCs (Lib.split (Lib.cut t toB).1 barB).tail = some cs) {p0 : Bs} {pr : List Bs} (h3 : Lib.split (Lib.cut t toB).1 barB = p0 :: pr) :
    lineP t = (⟨Lib.split p0 [32],cs,(Lib.cut t toB).2.1⟩,checkLine ⟨Lib.split p0 [32],cs,(Lib.cut t toB).2.1⟩):=by
  unfold lineP
  rw [if_neg (by rw [h]; decide),h2,h3]
  rfl
theorem split_count {sep : Bs} (hs : sep ≠ []) : ∀ (n : Nat) (s : Bs),s.length ≤ n → (Lib.split s sep).length ≤ s.length + 1
  | n,s,hn=>by
    rcases index_cases s sep with h | ⟨i,h,hi⟩
    · rw [split_miss h]; simp
    · rw [split_hit hs h hi]
      have hsp : 0 < sep.length:=List.length_pos_iff.2 hs
      match n,hn with
      | 0,hn=>omega
      | n + 1,hn =>
        have:=split_count hs n (s.drop (i + sep.length)) (by simp; omega)
        simp at this ⊢
        omega
end Gv
end PartS5
section PartS6
namespace Gv
open Go Gp
theorem textC_le {c : Cmd} (h : checkCmd c = 0) : (textC c).length ≤ 50:=by
  obtain ⟨k,h1,h2,h3,h4,h5,h6⟩:=cmd_print h
  unfold textC
  simp only [List.length_append]
  have a1 : (if c.word ≠ [] then 32 :: c.word else []).length ≤ 13:=by
    split
    · simp; omega
    · simp
  have a2 : (if 0 < c.n then 32 :: Lib.itoa c.n else []).length ≤ 25:=by
    split
    · rename_i hn
      have:=itoa_le hn h6
      simp; omega
    · simp
  omega
theorem textCs_le : ∀ {l : List Cmd},(∀ c ∈ l,checkCmd c = 0) → (textCs l).length ≤ 53 * l.length
  | [],_=>by simp [textCs]
  | c :: r,h=>by
    have h1:=textC_le (h c (by simp))
    have h2:=textCs_le (l:=r) fun c hc=>h c (by simp [hc])
    unfold textCs at h2 ⊢
    simp only [List.map_cons,List.flatten_cons,List.length_append,List.length_cons] at h2 ⊢
    have : barB.length = 3:=rfl
    omega
theorem printL_le {x : LineS} (h : checkLine x = 0) : (printL x).length ≤ 1000:=by
  obtain ⟨h1,h2,h3,h4,h5,h6,h7⟩:=line_facts h
  have:=textCs_le h7
  unfold printL textL
  simp only [List.length_append,List.length_cons,List.length_nil]
  have : toB.length = 3:=rfl
  omega
end Gv
end PartS6
section PartSpc
namespace Gv
open Go Gp
def verbsB : Bs:=[45,32,107,101,101,112,32,100,114,111,112,32,115,119,97,112,32,102,105,101,108,100,32,116,117,114,110,32,115,111,114,116,32,111,110,99,101,32,99,111,117,110,116,32,104,101,97,100,32,116,97,105,108]
def verbsL : List Bs:=[45] :: wordsL.tail
theorem fields_verbs : Lib.fields verbsB = verbsL:=by decide +kernel
theorem verbs_ascii : ∀ (j : Nat) b,verbsB[j]? = some b → b.toNat < 128:=fun j b h=>by
  have : ∀ b ∈ verbsB,b.toNat < 128:=by decide
  exact this b (List.mem_of_getElem? h)
theorem verbs_at {c : Cmd} (h : checkCmd c = 0) : ∃ k : Nat,c.kind = (k : Int) ∧ k < 11 ∧ verbsL[k]? = some (verb c.kind):=by
  obtain ⟨k,h1,h2,h3,-⟩:=cmd_print h
  have h0 : k ≠ 0:=by
    rcases cmd_cases h with ⟨j,a1,a2,w,hw,rfl⟩ | ⟨j,a1,n,a2,a3,rfl⟩ | ⟨j,a1,a2,rfl⟩ <;> dsimp only at h1 <;> omega
  refine ⟨k,h1,h2,?_⟩
  rw [h1,verb_nat]
  have : ∀ k,k < 11 → k ≠ 0 → verbsL[k]? = some (wordsL.getD k []):=by decide
  exact this k h2 h0
theorem verbs_idx (w : Bs) : (if verbsL.idxOf w < verbsL.length then (verbsL.idxOf w : Int) else -1) < 1 ∧ kindOf w = 0 ∨ (kindOf w ≠ 0 ∧ (if verbsL.idxOf w < verbsL.length then (verbsL.idxOf w : Int) else -1) = (kindOf w : Int)):=by
  unfold kindOf
  have hvl : verbsL.length = 11:=rfl
  rw [hvl]
  by_cases h : w = [45]
  · subst h
    left
    refine ⟨by decide,by decide⟩
  · have e : verbsL.idxOf w = wordsL.tail.idxOf w + 1 := by
      unfold verbsL
      rw [List.idxOf_cons]
      have : (([45] : Bs) == w) = false:=by simpa using fun e=>h e.symm
      rw [this]; rfl
    rw [e]
    by_cases h2 : wordsL.tail.idxOf w < 10
    · right
      rw [if_pos h2,if_pos (by omega)]
      exact ⟨by omega,rfl⟩
    · left
      rw [if_neg h2,if_neg (by omega)]
      exact ⟨by omega,rfl⟩
end Gv
end PartSpc
section PartS7
namespace Gv
open Go Gp
theorem split_parts_no {a : UInt8} : ∀ (n : Nat) (s : Bs),s.length ≤ n → ∀ x ∈ Lib.split s [a],a ∉ x
  | n,s,hn,x,hx=>by
    rcases idx_one a s with ⟨-,h2⟩ | ⟨p,r,e,h2,-⟩
    · rw [split_no h2] at hx
      rw [List.mem_singleton.1 hx]; exact h2
    · rw [e,split_at h2] at hx
      rcases List.mem_cons.1 hx with rfl | hx
      · exact h2
      · match n,hn with
        | 0,hn=>rw [e] at hn; simp at hn
        | n + 1,hn =>
          refine split_parts_no n r ?_ x hx
          have:=congrArg List.length e
          simp at this
          omega
theorem read_last {L : List Bs} {i n : Nat} {l : List LineS} (hno : ∀ x ∈ L, (10 : UInt8) ∉ x) (h : i + 1 = L.length) :
    parseGo (n + 1) (Lib.join (L.drop i) [10]) i l = if L[i]'(by omega) ≠ [] then ([],(i : Int),1) else if checkS l ≠ 0 then ([],0,checkS l) else (l,0,0):=by
  have hi : i < L.length:=by omega
  have e : L.drop i = [L[i]]:=by
    rw [← List.getElem_cons_drop hi,List.drop_eq_nil_of_le (by omega)]
  rw [e,join_one]
  by_cases h0 : L[i] = []
  · rw [h0,parseGo_end]; simp
  · rw [if_pos h0,parseGo_step h0,if_pos]
    have : Lib.index L[i] [10] = -1:=by
      rcases idx_one 10 L[i] with ⟨h1,-⟩ | ⟨p,r,e,-,-⟩
      · exact h1
      · exact absurd (by rw [e]; simp) (hno L[i] (List.getElem_mem hi))
    rw [cut_miss this]
theorem read_next {L : List Bs} {i n : Nat} {l : List LineS} (hno : ∀ x ∈ L, (10 : UInt8) ∉ x) (h : i + 1 < L.length) :
    parseGo (n + 1) (Lib.join (L.drop i) [10]) i l = if (lineP (L[i]'(by omega))).2 ≠ 0 then ([],(i : Int),(lineP (L[i]'(by omega))).2)
      else parseGo n (Lib.join (L.drop (i + 1)) [10]) (i + 1) (l ++ [(lineP (L[i]'(by omega))).1]):=by
  have hi : i < L.length:=by omega
  have e : Lib.join (L.drop i) [10] = L[i] ++ 10 :: Lib.join (L.drop (i + 1)) [10]:=by
    rw [← List.getElem_cons_drop hi,join_cons _ (by simp; omega),List.append_assoc]
    rfl
  rw [e,parseGo_step (by simp),cut1 (hno L[i] (List.getElem_mem hi)),if_neg (by simp)]
theorem read_first (s : Bs) : parseGo (s.length + 1) s 0 [] = parseGo (s.length + 1) (Lib.join ((Lib.split s [10]).drop 0) [10]) 0 []:=by
  rw [List.drop_zero,join_split (by simp) _ s (Nat.le_refl _)]
theorem cut_at {t : Bs} {k : Nat} (h : Lib.index t toB = k) : Lib.cut t toB = (t.take k,t.drop (k + 3),true):=cut_hit h
def verbAt (w : Bs) : Int:=if verbsL.idxOf w < verbsL.length then (verbsL.idxOf w : Int) else -1
theorem verbAt_cases (w : Bs) : (kindOf w = 0 ∧ (verbAt w = -1 ∨ verbAt w = 0)) ∨ (kindOf w ≠ 0 ∧ verbAt w = (kindOf w : Int)):=by
  rcases verbs_idx w with ⟨h1,h2⟩ | h
  · left
    refine ⟨h2,?_⟩
    unfold verbAt
    split
    · rename_i h3
      rw [if_pos h3] at h1
      right; omega
    · left; rfl
  · right; exact h
theorem checkS_many {l : List LineS} (h : ∀ x ∈ l,checkLine x = 0) : checkS l = if 6 < l.length then 2 else 0:=by
  by_cases h6 : 6 < l.length
  · rw [if_pos h6]; unfold checkS; rw [if_pos h6]
  · rw [if_neg h6]; exact checkS_ok (by omega) h
end Gv
end PartS7
section PartBld
namespace Gv
open Go Go.RowKit Gw Gp
variable [Glob]
section
variable {w0 : Start} {w w' : World} {m0 R m : Mem} {q : Loc} {rows : Rows} {P : Program}
theorem byt_cells {m : Mem} {l : List UInt8} {arr : Array Value} (h : ElsR m 1 (l.map byteV) arr) (i : Nat) (x : UInt8) (hx : l[i]? = some x) : arr[i]? = some (.int .u8 (x.toNat : Int)):=by
  obtain ⟨_,h2⟩:=h i (byteV x) (by rw [List.getElem?_map,hx]; rfl)
  obtain ⟨u,g1,_,g3⟩:=h2 0 (byteV x) rfl
  have : u = .int .u8 (x.toNat : Int):=by
    unfold byteV at g3
    cases g3; rfl
  rw [← this]; simpa using g1
theorem byt_els {m : Mem} {l : List UInt8} {arr : Array Value} (h : ∀ (i : Nat) x,l[i]? = some x → arr[i]? = some (.int .u8 (x.toNat : Int))) : ElsR m 1 (l.map byteV) arr:=fun i y hy=>by
  rw [List.getElem?_map] at hy
  obtain ⟨x,hx,rfl⟩:=Option.map_eq_some_iff.1 hy
  refine ⟨rfl,fun j v hv=>?_⟩
  have hj : j = 0:=by
    rcases Nat.eq_zero_or_pos j with h | h
    · exact h
    · rw [List.getElem?_eq_none (by simp [byteV,V.cells]; omega)] at hv; cases hv
  subst hj
  obtain rfl : byteV x = v:=by simpa [byteV,V.cells] using hv
  exact ⟨_,by simpa using h i x hx,rfl,.int⟩
theorem byt_src (C : Cf w0 m0 rows R m q w) {s : List UInt8} (hs : s.length ≤ MAXL) : ∃ new,Src P m w 1 (s.map byteV) (Gw.str s) new :=
  C.src (P:=P) (k:=1) (y:=.str s) (u:=Gw.str s) (.str hs) rfl rfl
theorem byt_new {T U E : Nat} {z : Value} {g : Bool} (hd : P.underlying T = some (.slice E)) (hE : tyOf P E = some (z, 1, 1, g)) (hz : z.cells.size = 1) (hU : P.underlying U = some .string) (C : Cf w0 m0 rows R m q w) {s : List UInt8} (h0 : s ≠ []) (hs : s.length ≤ 140737488355328) (typ : TypeId) :
    ∃ nc w' R',(Builtin.append_ #[T,U] typ #[.slice none 0 0,Gw.str s]).run P w = .ok (.slice (some ⟨w.heap.size,0,none⟩) s.length nc) w' ∧ Bel [] w w' ∧ Cf w0 m0 (rows ++ [.byt E s]) R' m (q.add rows.length (some w.heap.size,s.length,nc,1)) w' ∧
      (∀ b,b < w.heap.size → R' b = R b):=by
  have hpos : 0 < s.length:=List.length_pos_iff.2 h0
  obtain ⟨new,S⟩:=byt_src (P:=P) C (s:=s) (by unfold MAXL; omega)
  have hl : ∀ w',(Builtin.lenOf (Gw.str s)).run P w' = .ok s.length w':=fun w'=>by simpa using S.len w'
  have hn : (Builtin.firstCells 1 s.length (Gw.str s)).run P w.drew = .ok new.toArray w.drew:=by simpa using S.run w.drew rfl
  obtain ⟨nc,h1,h2,h3⟩:=run_append_new (P:=P) (w:=w) (T:=T) (U:=U) (E:=E) (k:=1) (e:=1) (n:=0) (n2:=s.length) (cap:=0) (oa:=none) (xv:=Gw.str s) (old:=[]) (new:=new) hd hE hU rfl (Nat.le_refl 1) (hl w) (by simp [Builtin.firstCells]) hn (by omega) (by omega) typ
  have hsz : new.length = s.length:=by simpa using S.size
  let arr' : Array Value:=([] : List Value).toArray ++ new.toArray ++ Builtin.zeroCells z.cells (nc - (0 + s.length))
  have harr : arr'.size = nc:=by
    simp only [arr',Array.size_append,zeroCells_size,hz]
    simp only [List.size_toArray,List.length_nil]
    omega
  have hE' : ElsR m 1 (s.map byteV) arr':=by
    have:=ElsR.app (P:=P) (m:=m) (w:=w) (k:=1) (els:=[]) (ys:=s.map byteV) (arr:=arr') (arr':=arr') (new:=new) (u:=Gw.str s) (fun i x hi=>by simp at hi) S (fun x hx=>rfl) (fun x hx=>by
      have:=getElem_app3 (a:=([] : List Value).toArray) (b:=new.toArray) (c:=Builtin.zeroCells z.cells (nc - (0 + s.length))) (x:=0 + x) (by simp; simp at hx; omega)
      rw [show arr' = ([] : List Value).toArray ++ new.toArray ++ Builtin.zeroCells z.cells (nc - (0 + s.length)) from rfl]
      simpa using this)
    simpa using this
  refine ⟨nc,w.drew.alloc (.cells arr' E),R.put w.heap.size (.cells arr' E),by rw [h3]; simp only [arr',Nat.zero_add],(Bel.drew [] w).trans (Bel.alloc [] _ _),?_,?_⟩
  · refine C.new (.byt E s) ((C.sit.step (Bel.drew [] w)).new _) (Mem.Le.refl m) (fun b hb=>if_neg (by omega)) (fun b hb=>by cases hb; exact Nat.le_refl _) ?_
    exact ⟨w.heap.size,nc,arr',add_self _ _ _,by omega,h2,by simp [Mem.put],harr,byt_cells hE'⟩
  · intro b hb
    exact if_neg (by omega)
theorem byt_app {T U E r b cap : Nat} {z : Value} {g : Bool} (hd : P.underlying T = some (.slice E)) (hE : tyOf P E = some (z, 1, 1, g)) (hz : z.cells.size = 1) (hU : P.underlying U = some .string) (C : Cf w0 m0 rows R m q w) {l s : List UInt8}
    (hrow : rows[r]? = some (.byt E l)) (hq : q r = some (some b,l.length,cap,1)) (hs : l.length + s.length ≤ 140737488355328) (typ : TypeId) :
    ∃ b' nc w' R',(Builtin.append_ #[T,U] typ #[.slice (some ⟨b,0,none⟩) l.length cap,Gw.str s]).run P w = .ok (.slice (some ⟨b',0,none⟩) (l ++ s).length nc) w' ∧ Bel [b] w w' ∧
      Cf w0 m0 (rows.set r .dead ++ [.byt E (l ++ s)]) R' m (q.add rows.length (some b',(l ++ s).length,nc,1)) w' ∧ (∀ x,x < w.heap.size → x ≠ b → R' x = R x):=by
  obtain ⟨new,S⟩:=byt_src (P:=P) C (s:=s) (by unfold MAXL; omega)
  have hl : ∀ w',(Builtin.lenOf (Gw.str s)).run P w' = .ok s.length w':=fun w'=>by simpa using S.len w'
  have hn : ∀ w' : World,w'.heap = w.heap → (Builtin.firstCells 1 s.length (Gw.str s)).run P w' = .ok new.toArray w':=fun w' h=>by simpa using S.run w' h
  have hsz : new.length = s.length:=by simpa using S.size
  obtain ⟨b',cap',arr,g1,g2,g3,g4,g5,g6⟩:=C.rok.row r _ hrow
  rw [hq] at g1
  cases g1
  have hblk:=(C.sit.own _ _ g4).2.1
  by_cases hc : l.length + s.length ≤ cap
  · have hfit : l.length * 1 + new.length ≤ arr.size:=by omega
    obtain ⟨w',hr,hbel,hh⟩:=run_append_in (P:=P) (typ:=typ) hd hE hU rfl (hl w) (hn w rfl) S.one hblk (noFz0 _) hfit hc
    have S':=C.sit.write g4 hbel hh
    have hnew : RowOK (R.put b (.cells (putL arr (l.length * 1) new) E (0,0))) m (q.add rows.length (some b,(l ++ s).length,cap,1)) rows.length (.byt E (l ++ s)):=by
      refine ⟨b,cap,putL arr (l.length * 1) new,add_self _ _ _,by simpa using hc,g3,if_pos rfl,by rw [size_putL]; exact g5,byt_cells (m:=m) ?_⟩
      rw [List.map_append]
      exact (byt_els (m:=m) g6).app S (fun x hx=>by simp only [List.length_map] at hx; exact putL_old hfit hx) (fun x hx=>by simp only [List.length_map] at hx ⊢; exact putL_new hfit (by omega))
    refine ⟨b,cap,w',_,by simpa using hr,hbel,C.move hrow rfl hq S' hnew,fun x _ hx=>by simp [Mem.put,hx]⟩
  · have hc' : cap < l.length + s.length:=by omega
    obtain ⟨old,S2⟩ : ∃ old,Src P m w 1 (l.map byteV) (.slice (some ⟨b,0,none⟩) (l.map byteV).length cap) old:=⟨_,src_block (P:=P) (m:=m) (w:=w) (b:=b) (off:=0) (k:=1) (cap:=cap) (ys:=l.map byteV) hblk (fun i x hi=>by simpa using byt_els (m:=m) g6 i x hi)⟩
    have hold:=S2.run w.drew rfl
    rw [List.length_map] at hold
    obtain ⟨nc,h1,h2,h3⟩:=run_append_new (P:=P) (w:=w) (T:=T) (U:=U) (E:=E) (k:=1) (e:=1) (n:=l.length) (n2:=s.length) (cap:=cap) (oa:=some ⟨b,0,none⟩) (xv:=Gw.str s) (old:=old) (new:=new) hd hE hU rfl (Nat.le_refl 1) (hl w) hold (hn w.drew rfl) hc' (by omega) typ
    have hos : old.length = l.length:=by simpa using S2.size
    let arr' : Array Value:=old.toArray ++ new.toArray ++ Builtin.zeroCells z.cells (nc - (l.length + s.length))
    have harr : arr'.size = nc:=by
      simp only [arr',Array.size_append,zeroCells_size,hz]
      simp only [List.size_toArray]
      omega
    have hget : ∀ x,x < old.length + new.length → arr'[x]? = if x < old.length then old[x]? else new[x - old.length]?:=fun x hx=>by
      have:=getElem_app3 (a:=old.toArray) (b:=new.toArray) (c:=Builtin.zeroCells z.cells (nc - (l.length + s.length))) (x:=x) (by simpa using hx)
      rw [show arr' = old.toArray ++ new.toArray ++ Builtin.zeroCells z.cells (nc - (l.length + s.length)) from rfl,this]
      simp
    have hels : ElsR m 1 (l.map byteV) old.toArray:=fun i x hi=>by
      refine ⟨(S2.el i x hi).1,fun j v hj=>?_⟩
      obtain ⟨u',f1,f2⟩:=(S2.el i x hi).2 j v hj
      exact ⟨u',by simpa using f1,f2⟩
    have hE' : ElsR m 1 ((l ++ s).map byteV) arr':=by
      rw [List.map_append]
      exact hels.app S (fun x hx=>by
        simp only [List.length_map] at hx
        rw [hget x (by omega),if_pos (by omega)]; simp) (fun x hx=>by
        simp only [List.length_map] at hx ⊢
        rw [hget _ (by omega),if_neg (by omega)]; congr 1; omega)
    have hlen : (rows.set r Row.dead).length = rows.length:=by simp
    refine ⟨w.heap.size,nc,w.drew.alloc (.cells arr' E),R.put w.heap.size (.cells arr' E),by rw [h3,List.length_append],(Bel.drew [b] w).trans (Bel.alloc [b] _ _),?_,fun x hx _=>if_neg (by omega)⟩
    have:=(C.kill hrow).new (.byt E (l ++ s)) (((C.kill hrow).sit.step (Bel.drew [] w)).new (.cells arr' E)) (Mem.Le.refl m) (fun b hb=>if_neg (Nat.ne_of_lt hb)) (ob:=some w.heap.size) (n:=(l ++ s).length) (c:=nc) (k:=1) (fun b hb=>by cases hb; exact Nat.le_refl _)
      ⟨w.heap.size,nc,arr',add_self _ _ _,by simpa using h1,h2,by simp [Mem.put],harr,byt_cells hE'⟩
    rw [hlen] at this
    exact this
theorem bld_cell {r T blk n c k : Nat} {b : V} (C : Cf w0 m0 rows R m q w) (hr : rows[r]? = some (.bx (some T) [.ptr r 0 0, b])) (hq : q r = some (some blk, n, c, k)) :
    ∃ a,R blk = some (.cells #[.pointer (some ⟨blk,0,none⟩),a] T (0,0)) ∧ w.heap[blk]? = some (.cells #[.pointer (some ⟨blk,0,none⟩),a] T (0,0)) ∧ VR m q b a ∧ a.oneCell' = true ∧ k = 2:=by
  obtain ⟨blk',arr,T',g1,g2,gT,g3,g4⟩:=C.rok.row r _ hr
  have hTT:=gT _ rfl
  subst hTT
  rw [hq] at g1
  cases g1
  obtain ⟨a0,e0,f0,v0⟩:=g4 0 _ rfl
  obtain ⟨a1,e1,f1,v1⟩:=g4 1 _ rfl
  have h2 : arr.size = 2:=g3
  have harr : arr = #[a0,a1]:=by
    have h0:=(Array.getElem?_eq_some_iff.1 e0)
    have h1:=(Array.getElem?_eq_some_iff.1 e1)
    apply Array.ext (by simp [h2])
    intro i hi1 hi2
    rw [h2] at hi1
    match i,hi1 with
    | 0,_=>exact h0.2
    | 1,_=>exact h1.2
  subst harr
  have ha : a0 = .pointer (some ⟨blk,0,none⟩):=by
    cases v0 with
    | ptr h=>rw [hq] at h; cases h; simp
  subst ha
  exact ⟨a1,g2,(C.sit.own _ _ g2).2.1,v1,f1,rfl⟩
theorem bld_put {r T blk n c k : Nat} {b v : V} {u : Value} (C : Cf w0 m0 rows R m q w) (hr : rows[r]? = some (.bx (some T) [.ptr r 0 0, b])) (hq : q r = some (some blk, n, c, k)) (hv : VR m q v u) (hu : u.oneCell' = true) :
    ∃ R',Cf w0 m0 (rows.set r (.bx (some T) [.ptr r 0 0,v])) R' m q (w.setCell ⟨blk,1,none⟩ u):=by
  obtain ⟨a,h1,h2,h3,h4,rfl⟩:=bld_cell C hr hq
  obtain ⟨blk',arr,T',g1,g2,gT,g3,g4⟩:=C.rok.row r _ hr
  rw [hq] at g1
  cases g1
  have hh : (w.setCell ⟨blk,1,none⟩ u).heap[blk]? = some (.cells #[.pointer (some ⟨blk,0,none⟩),u] T (0,0)):=by
    rw [setCell_heap _ h2]
    simp
  refine ⟨_,C.store (r:=r) (y:=.bx (some T) [.ptr r 0 0,v]) hr rfl hq h1 (Bel.setCell w _ (.inr (by simp))) hh ⟨blk,#[.pointer (some ⟨blk,0,none⟩),u],T,hq,by simp [Mem.put],fun T' e=>by cases e; rfl,rfl,fun i x e=>?_⟩⟩
  match i,e with
  | 0,e =>
    obtain rfl : V.ptr r 0 0 = x:=by simpa using e
    refine ⟨_,rfl,rfl,?_⟩
    have : VR m q (.ptr r 0 0) (.pointer (some ⟨blk,0 * 2 + 0,none⟩)):=.ptr hq
    simpa using this
  | 1,e =>
    obtain rfl : v = x:=by simpa using e
    exact ⟨_,rfl,hu,hv⟩
theorem bld_any {r T blk n c k : Nat} {p b : V} (C : Cf w0 m0 rows R m q w) (hr : rows[r]? = some (.bx (some T) [p, b])) (hq : q r = some (some blk, n, c, k)) :
    ∃ a0 a,R blk = some (.cells #[a0,a] T (0,0)) ∧ w.heap[blk]? = some (.cells #[a0,a] T (0,0)) ∧ VR m q b a:=by
  obtain ⟨blk',arr,T',g1,g2,gT,g3,g4⟩:=C.rok.row r _ hr
  have hTT:=gT _ rfl
  subst hTT
  rw [hq] at g1
  cases g1
  obtain ⟨a0,e0,f0,v0⟩:=g4 0 _ rfl
  obtain ⟨a1,e1,f1,v1⟩:=g4 1 _ rfl
  have h2 : arr.size = 2:=g3
  have harr : arr = #[a0,a1]:=by
    have h0:=(Array.getElem?_eq_some_iff.1 e0)
    have h1:=(Array.getElem?_eq_some_iff.1 e1)
    apply Array.ext (by simp [h2])
    intro i hi1 hi2
    rw [h2] at hi1
    match i,hi1 with
    | 0,_=>exact h0.2
    | 1,_=>exact h1.2
  subst harr
  exact ⟨a0,a1,g2,(C.sit.own _ _ g2).2.1,v1⟩
theorem freeze_bel {w : World} {g n : Nat} {cur : Array Value} {T : TypeId} {fz : Nat × Nat} (h : w.heap[g]? = some (.cells cur T fz)) : ∃ o',(w.freeze ⟨g,0,none⟩ n).heap[g]? = some o' ∧ Bel [g] w (w.freeze ⟨g,0,none⟩ n):=by
  unfold World.freeze
  split
  · exact ⟨_,h,Bel.refl _ _⟩
  · refine ⟨_,by rw [Array.getElem?_modify,if_pos rfl,h]; rfl,rfl,rfl,rfl,by simp,fun k hk hx=>?_⟩
    rw [Array.getElem?_modify,if_neg (fun e=>hx (List.mem_singleton.2 e.symm))]
end
theorem wpl_append {P : Program} {w : World} {ops : Array Oper} {rest : List Oper} {o : Oper} {a : Act} {Q : Exit → Act → World → Prop} (hgd : o.guard = none) (sl x : Operand) (t u : TypeId)
    (ho : o.op = .call { callee:=.builtin .append,args:=#[sl,x],argTypes:=#[t,u] }) {v v' s : Value} {w' : World} (hs : a.eval sl = v) (hx : a.eval x = s)
    (hr : (Builtin.append_ #[t,u] o.type #[v,s]).run P w = .ok v' w') (h : wpList P ops Q rest (a.put o.dst v') w') : wpList P ops Q (o :: rest) a w:=by
  refine wpList_plain hgd fun K hK=>?_
  unfold Oper.wp execOp
  simp only [ho,resolve,invoke,builtin,Sem.run_bind,Sem.run_pure,Result.andThen_ok,List.map_toArray,List.map_cons,List.map_nil,hs,hx,hr]
  exact hK _ _ h
end Gv
end PartBld
