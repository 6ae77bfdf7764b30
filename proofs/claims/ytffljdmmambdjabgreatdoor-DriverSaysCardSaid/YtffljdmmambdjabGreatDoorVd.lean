/- A calculus of what functions come to, part d: what is said holds in every world; conditions stand in each theorem. -/
import Derived.Lib.AtoiAllCases
import Derived.Lib.IndexBytes
import Derived.Lib.IndexLaws
import Derived.Lib.ItoaLen
import Derived.Lib.ItoaMem
import Derived.Lib.ItoaNum
import Derived.Lib.Join
import Derived.Lib.LaidTab
import Derived.Lib.Replace
import Derived.Lib.SlTrimSet
import Derived.Lib.SlicesCompact
import Derived.Lib.SplitLaws
import Derived.Sort.EncStr
import Derived.Sort.Grow
import Derived.Sort.OwnSorted
import Derived.Sort.Walk0
import Derived.Test.YtffljdmmambdjabGreatDoorVc
set_option linter.unusedVariables false
set_option linter.unusedSimpArgs false
set_option linter.unusedSectionVars false
section PartP1
namespace Gp
abbrev Bs:=List UInt8
def put:List Bs→Bs
 | []=>[]
 | s::r=>s++10::put r
def lineGo:Bs→Bs→List Bs
 | acc,[]=>if acc=[] then [] else [acc]
 | acc,c::r=>if c=10 then acc::lineGo [] r else lineGo (acc++[c]) r
def linesOf (b:Bs):List Bs:=lineGo [] b
def whole (b:Bs):Bs:=put (linesOf b)
def NoNl (l:List Bs):Prop:=∀ s∈l,(10:UInt8) ∉ s
theorem put_append (a b:List Bs):put (a++b)=put a++put b:=by
 induction a with
 | nil=>rfl
 | cons s r ih=>simp [put,ih]
theorem put_snoc (l:List Bs) (s:Bs):put (l++[s])=put l++(s++[10]):=by
 rw [put_append];rfl
theorem put_take_succ {l:List Bs} {i:Nat} (h:i < l.length):put (l.take (i+1))=put (l.take i)++(l[i]++[10]):=by
 rw [List.take_succ_eq_append_getElem h,put_snoc]
theorem put_take_le (l:List Bs) (i:Nat):(put (l.take i)).length≤(put l).length:=by
 have:=congrArg (fun a=>(put a).length) (List.take_append_drop i l)
 simp only [put_append,List.length_append] at this
 omega
theorem nl_cases (b:Bs):(10:UInt8) ∉ b∨∃ a r,b=a++10::r∧(10:UInt8) ∉ a:=by
 induction b with
 | nil=>exact .inl (by simp)
 | cons c b ih =>
  by_cases h:c=10
  ·subst h
   exact .inr ⟨[],b,rfl,by simp⟩
  ·rcases ih with ih|⟨a,r,rfl,ha⟩
   ·exact .inl (by simp [ih,Ne.symm h])
   ·exact .inr ⟨c::a,r,rfl,by simp [ha,Ne.symm h]⟩
theorem lineGo_nl {a:Bs} (h:(10:UInt8) ∉ a) (r:Bs):∀ acc,lineGo acc (a++10::r)=(acc++a)::linesOf r:=by
 induction a with
 | nil=>intro acc;simp [lineGo,linesOf]
 | cons c a ih =>
  intro acc
  simp only [List.mem_cons,not_or] at h
  show lineGo acc (c::(a++10::r))=_
  unfold lineGo
  rw [if_neg (fun e=>h.1 e.symm),ih h.2]
  simp
theorem lineGo_no {a:Bs} (h:(10:UInt8) ∉ a):∀ acc,lineGo acc a=if acc++a=[] then [] else [acc++a]:=by
 induction a with
 | nil=>intro acc;simp [lineGo]
 | cons c a ih =>
  intro acc
  simp only [List.mem_cons,not_or] at h
  unfold lineGo
  rw [if_neg (fun e=>h.1 e.symm),ih h.2]
  simp
theorem linesOf_nl {a:Bs} (h:(10:UInt8) ∉ a) (r:Bs):linesOf (a++10::r)=a::linesOf r:=by
 unfold linesOf
 rw [lineGo_nl h];rfl
theorem linesOf_no {a:Bs} (h:(10:UInt8) ∉ a) (h0:a≠[]):linesOf a=[a]:=by
 unfold linesOf
 rw [lineGo_no h];simp [h0]
theorem linesOf_nil:linesOf []=[]:=rfl
theorem linesOf_append {l:List Bs} (h:NoNl l) (b:Bs):linesOf (put l++b)=l++linesOf b:=by
 induction l with
 | nil=>rfl
 | cons s r ih =>
  have:=ih (fun x hx=>h x (by simp [hx]))
  show linesOf (s++10::put r++b)=_
  rw [List.append_assoc,List.cons_append,linesOf_nl (h s (by simp)),this]
  rfl
theorem linesOf_put {l:List Bs} (h:NoNl l):linesOf (put l)=l:=by
 have:=linesOf_append h []
 simpa [linesOf_nil] using this
theorem line_ind {P:Bs→Prop} (h0:P []) (h1:∀ a,(10:UInt8) ∉ a→a≠[]→P a) (h2:∀ a r,(10:UInt8) ∉ a→P r→P (a++10::r)):∀ b,P b:=by
 intro b
 generalize hn:b.length=n
 induction n using Nat.strongRecOn generalizing b with
 | ind n ih =>
  rcases nl_cases b with h|⟨a,r,rfl,ha⟩
  ·by_cases hb:b=[]
   ·subst hb;exact h0
   ·exact h1 b h hb
  ·refine h2 a r ha (ih r.length ?_ r rfl)
   subst hn
   simp
   omega
theorem linesOf_no10 (b:Bs):NoNl (linesOf b):=by
 induction b using line_ind with
 | h0=>intro s hs;cases hs
 | h1 a h h0=>rw [linesOf_no h h0];intro s hs;simp at hs;subst hs;exact h
 | h2 a r h ih =>
  rw [linesOf_nl h]
  intro s hs
  rcases List.mem_cons.1 hs with rfl|hs
  ·exact h
  ·exact ih s hs
def ended (b:Bs):Prop:=b=[]∨b.getLast?=some 10
theorem put_ended (l:List Bs):ended (put l):=by
 induction l with
 | nil=>exact .inl rfl
 | cons s r ih =>
  right
  show (s++10::put r).getLast?=_
  rcases ih with h|h
  ·rw [h];simp
  ·rw [List.getLast?_append,List.getLast?_cons,h];simp
theorem whole_eq (b:Bs):whole b=b∧ended b∨whole b=b++[10]∧¬ ended b:=by
 induction b using line_ind with
 | h0=>exact .inl ⟨rfl,.inl rfl⟩
 | h1 a h h0 =>
  right
  unfold whole
  rw [linesOf_no h h0]
  refine ⟨rfl,?_⟩
  rintro (h1|h1)
  ·exact h0 h1
  ·exact h (List.mem_of_getLast? h1)
 | h2 a r h ih =>
  unfold whole at ih ⊢
  rw [linesOf_nl h]
  rcases ih with ⟨e1,e2⟩|⟨e1,e2⟩
  ·left
   refine ⟨by rw [put,e1],.inr ?_⟩
   rcases e2 with e2|e2
   ·rw [e2];simp
   ·rw [List.getLast?_append,List.getLast?_cons,e2];simp
  ·right
   refine ⟨by rw [put,e1];simp,?_⟩
   rintro (h1|h1)
   ·simp at h1
   ·apply e2
    by_cases hr:r=[]
    ·exact .inl hr
    ·right
     rw [List.getLast?_append,List.getLast?_cons] at h1
     cases hl:r.getLast? with
     | none=>exact absurd (List.getLast?_eq_none_iff.1 hl) hr
     | some x=>rw [hl] at h1;simpa using h1
theorem whole_len (b:Bs):(whole b).length≤b.length+1:=by
 rcases whole_eq b with h|h<;>rw [h.1]<;>simp
theorem put_len {l:List Bs} {n:Nat} (h:(put l).length≤n):l.length≤n:=by
 induction l generalizing n with
 | nil=>simp
 | cons s r ih =>
  simp only [put,List.length_append,List.length_cons] at h ⊢
  have:=ih (n:=n-1) (by omega)
  omega
theorem linesOf_len (b:Bs):(linesOf b).length≤b.length:=by
 induction b using line_ind with
 | h0=>simp [linesOf_nil]
 | h1 a h h0 =>
  rw [linesOf_no h h0]
  have:a.length≠0:=fun e=>h0 (List.length_eq_zero_iff.1 e)
  simp;omega
 | h2 a r h ih=>rw [linesOf_nl h];simp;omega
theorem linesOf_el (b:Bs):∀ s∈linesOf b,s.length≤b.length:=by
 induction b using line_ind with
 | h0=>intro s hs;cases hs
 | h1 a h h0=>rw [linesOf_no h h0];intro s hs;simp at hs;subst hs;exact Nat.le_refl _
 | h2 a r h ih =>
  rw [linesOf_nl h]
  intro s hs
  rcases List.mem_cons.1 hs with rfl|hs
  ·simp
  ·have:=ih s hs
   simp;omega
def cutNl (b:Bs):Bs × Bs × Bool:=(b.takeWhile (· != 10),(b.dropWhile (· != 10)).tail,b.contains 10)
theorem cutNl_no {b:Bs} (h:(10:UInt8) ∉ b):cutNl b=(b,[],false):=by
 have h1:b.takeWhile (· != 10)=b:=by
  have:=List.takeWhile_append_of_pos (p:=(· != (10:UInt8))) (l₁:=b) (l₂:=[]) (fun x hx=>by
   have:x≠10:=fun e=>h (e ▸ hx)
   simpa using this)
  simpa using this
 have h2:b.dropWhile (· != 10)=[]:=by
  have:=List.takeWhile_append_dropWhile (p:=(· != (10:UInt8))) (l:=b)
  rw [h1] at this
  simpa using this
 unfold cutNl
 rw [h1,h2]
 simpa using h
theorem cutNl_nl {a:Bs} (h:(10:UInt8) ∉ a) (r:Bs):cutNl (a++10::r)=(a,r,true):=by
 have hp:∀ x∈a,(x != 10)=true:=fun x hx=>by
  have:x≠10:=fun e=>h (e ▸ hx)
  simpa using this
 unfold cutNl
 rw [List.takeWhile_append_of_pos hp,List.dropWhile_append_of_pos hp]
 simp
theorem linesOf_cut {b:Bs} (h:b≠[]):linesOf b=(cutNl b).1::linesOf (cutNl b).2.1:=by
 rcases nl_cases b with h1|⟨a,r,rfl,ha⟩
 ·rw [cutNl_no h1,linesOf_no h1 h];rfl
 ·rw [cutNl_nl ha,linesOf_nl ha]
theorem cut_len {b:Bs} (h:b≠[]):(cutNl b).2.1.length < b.length∧(cutNl b).1.length≤b.length:=by
 rcases nl_cases b with h1|⟨a,r,rfl,ha⟩
 ·rw [cutNl_no h1]
  exact ⟨by simpa using List.length_pos_iff.2 h,Nat.le_refl _⟩
 ·rw [cutNl_nl ha]
  simp;omega
def part (l:List Bs) (n k:Nat):List Bs:=(l.take ((k+1)*l.length / n)).drop (k*l.length / n)
def splitLines (l:List Bs) (n:Nat):List Bs:=(List.range n).map fun k=>put (part l n k)
theorem part_bnd (m n k:Nat) (hn:0 < n):k*m / n+m / n≤(k+1)*m / n∧(k+1)*m / n≤k*m / n+m / n+1:=by
 have e1:=Nat.div_add_mod (k*m) n
 have e2:=Nat.mod_lt (k*m) hn
 have e3:=Nat.div_add_mod m n
 have e4:=Nat.mod_lt m hn
 have e5:=Nat.div_add_mod ((k+1)*m) n
 have e6:=Nat.mod_lt ((k+1)*m) hn
 have e7:(k+1)*m=k*m+m:=by rw [Nat.succ_mul]
 rw [e7] at e5 e6 ⊢
 generalize k*m=a at *
 generalize ha:a / n=qa at *
 generalize hm:m / n=qm at *
 generalize hs:(a+m) / n=qs at *
 generalize a % n=ra at *
 generalize m % n=rm at *
 generalize (a+m) % n=rs at *
 constructor
 ·apply Nat.le_of_lt_succ
  apply Nat.lt_of_mul_lt_mul_left (a:=n)
  rw [Nat.mul_add,Nat.mul_succ]
  omega
 ·apply Nat.le_of_lt_succ
  apply Nat.lt_of_mul_lt_mul_left (a:=n)
  have:n*(qa+qm+1).succ=n*qa+n*qm+n+n:=by
   rw [Nat.mul_succ,Nat.mul_add,Nat.mul_add];omega
  rw [this]
  omega
theorem part_cat (l:List Bs) (n k:Nat) (hn:0 < n):l.take (k*l.length / n)++part l n k=l.take ((k+1)*l.length / n):=by
 have h1:=part_bnd l.length n k hn
 unfold part
 have:l.take (k*l.length / n)=(l.take ((k+1)*l.length / n)).take (k*l.length / n):=by
  rw [List.take_take];congr 1
  generalize k*l.length / n=a at *
  generalize (k+1)*l.length / n=b at *
  generalize l.length / n=c at *
  omega
 rw [this,List.take_append_drop]
theorem part_no {l:List Bs} (h:NoNl l) (n k:Nat):NoNl (part l n k):=fun s hs=>h s (List.mem_of_mem_take (List.mem_of_mem_drop hs))
end Gp
end PartP1
section PartP2
namespace Gp
structure Cmd where
 kind:Int
 word:Bs
 n:Int
 deriving DecidableEq
structure LineS where
 frm:List Bs
 cmds:List Cmd
 to:Bs
 deriving DecidableEq
structure Port where
 node:Int
 out:Int
 deriving DecidableEq
structure Node where
 kind:Int
 file:Bs
 c:Cmd
 how:Int
 wide:Int
 ins:List Port
 deriving DecidableEq
def wordByte (c:UInt8):Bool:=(decide (97≤c.toNat) && decide (c.toNat≤122)) || (decide (48≤c.toNat) && decide (c.toNat≤57))
def isWord (s:Bs):Bool:=decide (s≠[]) && decide (s.length≤12) && s.all wordByte
def useWord (c:Cmd):Bool:=decide (c.kind=1) || decide (c.kind=2) || decide (c.kind=3)
def useN (c:Cmd):Bool:=decide (c.kind=4) || decide (c.kind=9) || decide (c.kind=10)
def checkCmd (c:Cmd):Int :=
 if c.kind < 1∨10 < c.kind then 4
 else if (useWord c=false∧c.word≠[])∨(useN c=false∧c.n≠0) then 4
 else if useN c=true∧(c.n < 1∨1000 < c.n) then 3
 else if (useWord c=true∧isWord c.word=false)∨(c.kind=3∧c.word.length≠2) then 1
 else 0
def firstBad:List Cmd→Int
 | []=>0
 | c::r=>if checkCmd c=0 then firstBad r else checkCmd c
def checkLine (l:LineS):Int :=
 if l.frm.length=0∨4 < l.frm.length∨6 < l.cmds.length then 2
 else if (l.frm++[l.to]).all isWord=false then 1
 else firstBad l.cmds
def each (c:Cmd):Bool:=decide (1≤c.kind) && decide (c.kind≤5)
def howFor (c:Cmd):Int:=if c.kind=6 then 2 else if c.kind=8 then 3 else if c.kind=7∨c.kind=9∨c.kind=10 then 4 else 1
theorem firstBad_at:∀ {l:List Cmd},firstBad l=0→∀ c∈l,checkCmd c=0
 | [],h,c,hc=>by cases hc
 | c::r,h,x,hx=>by
  unfold firstBad at h
  split at h
  ·rename_i h1
   rcases List.mem_cons.1 hx with rfl|hx
   ·exact h1
   ·exact firstBad_at h x hx
  ·rename_i h1;exact absurd h h1
def zCmd:Cmd:=⟨0,[],0⟩
def srcN (f:Bs):Node:=⟨1,f,zCmd,0,0,[]⟩
def splitN (w:Int) (ins:List Port):Node:=⟨2,[],zCmd,0,w,ins⟩
def workN (c:Cmd) (ins:List Port):Node:=⟨3,[],c,0,0,ins⟩
def joinN (how:Int) (c:Cmd) (ins:List Port):Node:=⟨4,[],c,how,0,ins⟩
def sinkN (f:Bs) (ins:List Port):Node:=⟨5,f,zCmd,0,0,ins⟩
structure Desk where
 nodes:List Node
 cur:List Port
def Desk.src (d:Desk) (f:Bs):Desk:=⟨d.nodes++[srcN f],d.cur++[⟨d.nodes.length,0⟩]⟩
def Desk.behind (d:Desk):Desk:=if 1 < d.cur.length then ⟨d.nodes++[joinN 1 zCmd d.cur],[⟨d.nodes.length,0⟩]⟩ else d
def ports (i:Int) (n:Nat):List Port:=(List.range n).map fun (k:Nat)=>⟨i,(k:Int)⟩
def outs (i:Int) (n:Nat):List Port:=(List.range n).map fun (k:Nat)=>⟨i+(k:Int),0⟩
def Desk.wide (d:Desk) (n:Int):Desk:=if 1 < d.cur.length∨n=1 then d else ⟨d.nodes++[splitN n d.cur],ports d.nodes.length n.toNat⟩
def Desk.work (d:Desk) (c:Cmd):Desk:=⟨d.nodes++d.cur.map fun p=>workN c [p],outs d.nodes.length d.cur.length⟩
def Desk.fin (d:Desk) (c:Cmd):Desk:=⟨d.nodes++[joinN (howFor c) (if howFor c=4 then c else zCmd) d.cur],[⟨d.nodes.length,0⟩]⟩
def Desk.step (wide:Int) (d:Desk) (c:Cmd):Desk:=if each c=true∨wide=1 then (d.wide wide).work c else ((d.wide wide).work c).fin c
def srcs (l:List Bs):Desk:=l.foldl Desk.src ⟨[],[]⟩
def steps (wide:Int) (d:Desk) (l:List Cmd):Desk:=l.foldl (Desk.step wide) d
def planDesk (l:LineS) (wide:Int):Desk:=(steps wide (srcs l.frm).behind l.cmds).behind
def planNodes (l:LineS) (wide:Int):List Node:=(planDesk l wide).nodes++[sinkN l.to (planDesk l wide).cur]
def plan (l:LineS) (wide:Int):List Node × Int :=
 if checkLine l≠0 then ([],checkLine l) else if wide < 1∨5 < wide then ([],3) else (planNodes l wide,0)
theorem ports_len (i:Int) (n:Nat):(ports i n).length=n:=by simp [ports]
theorem outs_len (i:Int) (n:Nat):(outs i n).length=n:=by simp [outs]
theorem ports_succ (i:Int) (n:Nat):ports i (n+1)=ports i n++[⟨i,(n:Int)⟩]:=by simp [ports,List.range_succ]
theorem outs_succ (i:Int) (n:Nat):outs i (n+1)=outs i n++[⟨i+(n:Int),0⟩]:=by simp [outs,List.range_succ]
theorem srcs_take {l:List Bs} {i:Nat} (h:i < l.length):srcs (l.take (i+1))=(srcs (l.take i)).src l[i]:=by
 unfold srcs
 rw [List.take_succ_eq_append_getElem h,List.foldl_append]
 rfl
theorem steps_take {w:Int} {d:Desk} {l:List Cmd} {i:Nat} (h:i < l.length):steps w d (l.take (i+1))=(steps w d (l.take i)).step w l[i]:=by
 unfold steps
 rw [List.take_succ_eq_append_getElem h,List.foldl_append]
 rfl
def cnt (k:Int) (l:List Node):Nat:=(l.filter fun n=>decide (n.kind=k)).length
theorem cnt_append (k:Int) (a b:List Node):cnt k (a++b)=cnt k a+cnt k b:=by simp [cnt]
theorem cnt_snoc (k:Int) (a:List Node) (n:Node):cnt k (a++[n])=cnt k a+(if n.kind=k then 1 else 0):=by
 rw [cnt_append]
 by_cases h:n.kind=k<;>simp [cnt,h]
theorem cnt_work (k:Int) (c:Cmd) (l:List Port):cnt k (l.map fun p=>workN c [p])=if k=3 then l.length else 0:=by
 induction l with
 | nil=>simp [cnt]
 | cons p l ih =>
  rw [List.map_cons,show (workN c [p]::l.map fun p=>workN c [p])=[workN c [p]]++l.map (fun p=>workN c [p]) from rfl,cnt_append,ih]
  by_cases h:k=3
  ·subst h;simp [cnt,workN];omega
  ·have h':¬ (3:Int)=k:=fun e=>h e.symm
   simp [cnt,workN,h,h']
theorem srcs_len (l:List Bs):(srcs l).nodes.length=l.length∧(srcs l).cur.length=l.length∧∀ k,cnt k (srcs l).nodes=if k=1 then l.length else 0:=by
 suffices h:∀ (l:List Bs) (d:Desk),(l.foldl Desk.src d).nodes.length=d.nodes.length+l.length∧(l.foldl Desk.src d).cur.length=d.cur.length+l.length∧∀ k,cnt k (l.foldl Desk.src d).nodes=cnt k d.nodes+if k=1 then l.length else 0 by
  have:=h l ⟨[],[]⟩
  simpa [srcs,cnt] using this
 intro l
 induction l with
 | nil=>intro d;simp
 | cons f l ih =>
  intro d
  obtain ⟨h1,h2,h3⟩:=ih (d.src f)
  refine ⟨?_,?_,fun k=>?_⟩
  ·rw [List.foldl_cons,h1];simp [Desk.src];omega
  ·rw [List.foldl_cons,h2];simp [Desk.src];omega
  ·rw [List.foldl_cons,h3]
   simp only [Desk.src,cnt_snoc,srcN,List.length_cons]
   by_cases h:k=1
   ·subst h;simp;omega
   ·have h':¬ (1:Int)=k:=fun e=>h e.symm
    simp [h,h']
def SplitsW (wide:Int) (l:List Node):Prop:=∀ n∈l,n.kind=2→n.wide=wide
structure DeskOK (l:LineS) (wide:Int) (i:Nat) (d:Desk):Prop where
 len:d.nodes.length≤5+7*i
 cur:d.cur.length=1∨(d.cur.length:Int)=wide
 c1:cnt 1 d.nodes=l.frm.length
 c5:cnt 5 d.nodes=0
 c3:(cnt 3 d.nodes:Int)=wide*i
 c2:wide=1→cnt 2 d.nodes=0
 sp:SplitsW wide d.nodes
theorem desk_start {l:LineS} {wide:Int} (h:1≤l.frm.length∧l.frm.length≤4):DeskOK l wide 0 (srcs l.frm).behind:=by
 obtain ⟨h1,h2,h3⟩:=srcs_len l.frm
 have hsp:SplitsW wide (srcs l.frm).nodes:=by
  intro n hn hk
  have:=h3 2
  simp at this
  unfold cnt at this
  rw [List.length_eq_zero_iff,List.filter_eq_nil_iff] at this
  exact absurd hk (by simpa using this n hn)
 unfold Desk.behind
 split
 ·refine ⟨by simp;omega,.inl rfl,?_,?_,?_,?_,?_⟩<;>simp only [cnt_snoc,h3,joinN]
  ·simp
  ·simp
  ·simp
  ·simp
  ·intro n hn hk
   rcases List.mem_append.1 hn with hn|hn
   ·exact hsp n hn hk
   ·simp at hn;subst hn;simp [joinN] at hk
 ·refine ⟨by omega,.inl (by omega),?_,?_,?_,?_,hsp⟩<;>simp only [h3]
  ·simp
  ·simp
  ·simp
  ·simp
theorem desk_wide {l:LineS} {wide:Int} {i:Nat} {d:Desk} (h:DeskOK l wide i d) (hw:1≤wide∧wide≤5):((d.wide wide).cur.length:Int)=wide∧(d.wide wide).nodes.length≤6+7*i∧cnt 1 (d.wide wide).nodes=l.frm.length∧cnt 5 (d.wide wide).nodes=0∧(cnt 3 (d.wide wide).nodes:Int)=wide*i∧(wide=1→cnt 2 (d.wide wide).nodes=0)∧SplitsW wide (d.wide wide).nodes:=by
 have hl:=h.len
 have hc:=h.cur
 unfold Desk.wide
 split
 ·refine ⟨by omega,by omega,h.c1,h.c5,h.c3,h.c2,h.sp⟩
 ·refine ⟨by rw [ports_len];omega,by simp;omega,?_,?_,?_,?_,?_⟩
  ·simp [cnt_snoc,splitN,h.c1]
  ·simp [cnt_snoc,splitN,h.c5]
  ·simp [cnt_snoc,splitN,h.c3]
  ·intro h1;omega
  ·intro n hn hk
   rcases List.mem_append.1 hn with hn|hn
   ·exact h.sp n hn hk
   ·simp at hn;subst hn;rfl
theorem desk_step {l:LineS} {wide:Int} {i:Nat} {d:Desk} (h:DeskOK l wide i d) (hw:1≤wide∧wide≤5) (c:Cmd):DeskOK l wide (i+1) (d.step wide c):=by
 obtain ⟨h1,h2,h3,h4,h5,h6,h7⟩:=desk_wide h hw
 unfold Desk.step
 generalize d.wide wide=e at *
 have hw1:∀ k,cnt k (e.work c).nodes=cnt k e.nodes+if k=3 then e.cur.length else 0:=fun k=>by
  simp only [Desk.work,cnt_append,cnt_work]
 have hsp:SplitsW wide (e.work c).nodes:=by
  intro n hn hk
  rcases List.mem_append.1 hn with hn|hn
  ·exact h7 n hn hk
  ·obtain ⟨p,_,rfl⟩:=List.mem_map.1 hn
   simp [workN] at hk
 have hlen:(e.work c).nodes.length=e.nodes.length+e.cur.length:=by simp [Desk.work]
 have hcur:(e.work c).cur.length=e.cur.length:=by simp [Desk.work,outs_len]
 have h3w:(cnt 3 (e.work c).nodes:Int)=wide*((i+1:Nat):Int):=by
  have:=hw1 3
  simp only [if_true] at this
  rw [this,Int.natCast_add,h5,h1,Int.natCast_add,Int.mul_add]
  simp
 split
 ·refine ⟨by omega,.inr (by omega),by simpa [h3] using hw1 1,by simpa [h4] using hw1 5,h3w,fun e1=>by simpa [h6 e1] using hw1 2,hsp⟩
 ·refine ⟨by simp [Desk.fin];omega,.inl rfl,?_,?_,?_,?_,?_⟩
  ·simp [Desk.fin,cnt_snoc,joinN,hw1,h3]
  ·simp [Desk.fin,cnt_snoc,joinN,hw1,h4]
  ·have:cnt 3 ((e.work c).fin c).nodes=cnt 3 (e.work c).nodes:=by simp [Desk.fin,cnt_snoc,joinN]
   rw [this];exact h3w
  ·intro e1;simp [Desk.fin,cnt_snoc,joinN,hw1,h6 e1]
  ·intro n hn hk
   rcases List.mem_append.1 hn with hn|hn
   ·exact hsp n hn hk
   ·simp at hn;subst hn;simp [joinN] at hk
theorem steps_ok {l:LineS} {wide:Int} (h:1≤l.frm.length∧l.frm.length≤4) (hw:1≤wide∧wide≤5) (i:Nat) (hi:i≤l.cmds.length):DeskOK l wide i (steps wide (srcs l.frm).behind (l.cmds.take i)):=by
 induction i with
 | zero=>simpa [steps] using desk_start h
 | succ i ih =>
  rw [steps_take (by omega)]
  exact desk_step (ih (by omega)) hw _
theorem plan_shape {l:LineS} {wide:Int} (h:1≤l.frm.length∧l.frm.length≤4) (hw:1≤wide∧wide≤5):cnt 1 (planNodes l wide)=l.frm.length∧cnt 5 (planNodes l wide)=1∧(cnt 3 (planNodes l wide):Int)=wide*l.cmds.length∧(wide=1→cnt 2 (planNodes l wide)=0)∧SplitsW wide (planNodes l wide):=by
 have D:=steps_ok h hw l.cmds.length (Nat.le_refl _)
 rw [List.take_length] at D
 unfold planNodes planDesk
 generalize steps wide (srcs l.frm).behind l.cmds=d at *
 have hb:∀ k,k≠4→cnt k d.behind.nodes=cnt k d.nodes:=fun k hk=>by
  unfold Desk.behind
  split
  ·have h':¬ (4:Int)=k:=fun e=>hk e.symm
   simp [cnt_snoc,joinN,h']
  ·rfl
 have hsp:SplitsW wide d.behind.nodes:=by
  unfold Desk.behind
  split
  ·intro n hn hk
   rcases List.mem_append.1 hn with hn|hn
   ·exact D.sp n hn hk
   ·simp at hn;subst hn;simp [joinN] at hk
  ·exact D.sp
 refine ⟨?_,?_,?_,?_,?_⟩
 ·simp [cnt_snoc,sinkN,hb,D.c1]
 ·simp [cnt_snoc,sinkN,hb,D.c5]
 ·simp [cnt_snoc,sinkN,hb,D.c3]
 ·intro e;simp [cnt_snoc,sinkN,hb,D.c2 e]
 ·intro n hn hk
  rcases List.mem_append.1 hn with hn|hn
  ·exact hsp n hn hk
  ·simp at hn;subst hn;simp [sinkN] at hk
end Gp
end PartP2
section PartEnc
namespace Gv
open Go Gp
def blV (l:List UInt8):V:=.sl byteV l
def idxB (l:List UInt8) (c:UInt8):Int:=Lib.indexByte l c
def intV (n:Int):V:=.int .i64 n
def cmdV (c:Cmd):V:=.agg [.int .i64 c.kind,.str c.word,.int .i64 c.n]
noncomputable def lineV (l:LineS):V:=.agg [.sl strV l.frm,.sl cmdV l.cmds,.str l.to]
def portV (p:Port):V:=.agg [.int .i64 p.node,.int .i64 p.out]
def nodeV (n:Gp.Node):V:=.agg [.int .i64 n.kind,.str n.file,.int .i64 n.c.kind,.str n.c.word,.int .i64 n.c.n,.int .i64 n.how,.int .i64 n.wide,.sl portV n.ins]
structure PipeS where
 b:List UInt8
 room:Int
 closed:Bool
 shut:Bool
def pipeV (p:PipeS):V:=.agg [.sl byteV p.b,.int .i64 p.room,.bool p.closed,.bool p.shut]
structure FileS where
 name:Bs
 b:Bs
 deriving DecidableEq
def fileV (f:FileS):V:=.agg [.str f.name,.sl byteV f.b]
end Gv
end PartEnc
section PartAd
namespace Gv
open Go Go.RowKit Gw Gp
variable [Glob]
abbrev ba (s:Bs):ByteArray:=⟨s.toArray⟩
theorem ba_size (s:Bs):(ba s).size=s.length:=by simp [ba,ByteArray.size]
theorem vr_str {m:Mem} {q:Loc} {s:Bs} {u:Value} (h:VR m q (.str s) u):u=Gw.str s∧s.length≤MAXL:=by
 cases h with|str h=>exact ⟨rfl,h⟩
theorem strs_open {w:World} {m:Mem} {q:Loc} {l:List Bs} {u:Value} (h:VR m q (.sl strV l) u) (hm:Sub m w):∃ p c, u=.slice p l.length c∧l.length≤c∧c≤MAXL ∧
  (l≠[]→∃ b o,p=some ⟨b,o,none⟩∧b < w.heap.size∧(∀ (j:Nat) x,l[j]?=some x→w.cell? ⟨b,o+j,none⟩=some (Gw.str x))∧∀ x∈l,x.length≤MAXL):=by
 cases h with
 | @sl0 _ _ _ oa cap hc h0=>exact ⟨oa,cap,rfl,by simp,hc,fun h=>absurd rfl h⟩
 | @sl _ _ _ _ b off arr T fz cap k us h1 h2 h3 h4 h5 h6 =>
  refine ⟨_,_,rfl,h1,h2,fun hne=>⟨b,off,rfl,hm.lt h3,fun j x hx=>?_,fun x hx=>?_⟩⟩
  ·have hj:j < l.length:=(List.getElem?_eq_some_iff.1 hx).1
   have hxe:l[j]=x:=(List.getElem?_eq_some_iff.1 hx).2
   have hk:k=1:=by rw [←h4 j hj];rfl
   subst hk
   have e:=h5 j hj 0 (strV l[j]) (by simp [strV,V.cells])
   have e2:=h6 j hj 0 (strV l[j]) (by simp [strV,V.cells])
   have e3:=(vr_str e2).1
   have hb:=hm _ _ h3
   simp only [World.cell?,hb,Option.isSome_none,Bool.false_eq_true,if_false]
   rw [show off+j=off+j*1+0 by omega,e.1,e3,hxe]
  ·obtain ⟨j,hj,rfl⟩:=List.getElem_of_mem hx
   exact (vr_str (h6 j hj 0 (strV l[j]) (by simp [strV,V.cells]))).2
theorem strs_new {w w':World} {m:Mem} {l:List Bs} {T:TypeId} (hb:w'.heap[w.heap.size]?=some (.cells (l.map Gw.str).toArray T)) (hl:l.length≤MAXL) (hx:∀ x∈l, x.length≤MAXL) :
  VR (grow m w w') noLoc (.sl strV l) (.slice (some ⟨w.heap.size,0,none⟩) l.length l.length):=by
 have hc:∀ j x,l[j]?=some x→((l.map Gw.str).toArray)[0+j*1+0]?=some (Gw.str x):=fun j x hx=>by
  rw [show 0+j*1+0=j by omega,List.getElem?_toArray,List.getElem?_map,hx];rfl
 refine .sl (k:=1) (off:=0) (fun i j=>Gw.str (l.getD i [])) (Nat.le_refl _) hl (show grow m w w' _=_ by unfold grow;rw [if_neg (by omega)];exact hb) (fun i h=>rfl) (fun i h j v e=>?_) (fun i h j v e=>?_)
 ·have hj:j=0 := by
   rcases Nat.eq_zero_or_pos j with h|h
   ·exact h
   ·rw [List.getElem?_eq_none (by simp [strV,V.cells];omega)] at e;cases e
  subst hj
  refine ⟨?_,rfl⟩
  rw [hc i l[i] (List.getElem?_eq_getElem h)]
  simp [h]
 ·have hj:j=0 := by
   rcases Nat.eq_zero_or_pos j with h|h
   ·exact h
   ·rw [List.getElem?_eq_none (by simp [strV,V.cells];omega)] at e;cases e
  subst hj
  obtain rfl:V.str l[i]=v:=by simpa [strV,V.cells] using e
  have:l.getD i []=l[i]:=by simp [h]
  rw [this]
  exact .str (hx _ (List.getElem_mem h))
theorem splitK_le (sep:Bs):∀ (k:Nat) (s:Bs),∀ x∈Lib.splitK sep 0 k s,x.length≤s.length
 | 0,s,x,hx=>by simp [Lib.splitK] at hx;subst hx;exact Nat.le_refl _
 | k+1,s,x,hx=>by
  unfold Lib.splitK at hx
  split at hx
  ·simp at hx;subst hx;exact Nat.le_refl _
  ·rcases List.mem_cons.1 hx with rfl|hx
   ·simp;omega
   ·have:=splitK_le sep k _ x hx
    simp at this;omega
theorem split_len (s sep:Bs) (h:1≤sep.length):(Lib.split s sep).length=Lib.count s sep+1:=by
 have h1:=Lib.splitB_all (ba sep) (by rw [ba_size];exact h) 0 (Lib.count s sep) (ba s) rfl
 have e:=congrArg List.length (Lib.splitB_data (ba sep) 0 (Lib.count s sep) (ba s))
 rw [List.length_map,h1] at e
 exact e.symm
theorem split_cells (s sep:Bs):List.map Value.string (Lib.splitB (ba sep) 0 (Lib.countB (ba s) (ba sep)) (ba s))=(Lib.split s sep).map Gw.str:=by
 have e:=Lib.splitB_data (ba sep) 0 (Lib.countB (ba s) (ba sep)) (ba s)
 have e2:Lib.split s sep=(Lib.splitB (ba sep) 0 (Lib.countB (ba s) (ba sep)) (ba s)).map (·.data.toList):=e.symm
 rw [e2,List.map_map]
 refine List.map_congr_left fun x hx=>?_
 show Value.string x=Value.string ⟨x.data.toList.toArray⟩
 simp
end Gv
end PartAd
section PartAd2
namespace Gv
open Go Go.RowKit Gw Gp
variable [Glob]
section
variable {w0:Start} {w w':World} {m0 R m:Mem} {q:Loc}
theorem put_heap (w:World) {blk off:Nat} (d:Array Bs) {arr:Array Value} {T:TypeId} {fz:Nat × Nat} (h:w.heap[blk]?=some (.cells arr T fz)) (k:Nat) :
  (Go.Sort.putRow Go.Proofs.encStr w blk off d).heap[k]?=if k=blk then some (.cells (Go.Sort.putCells Go.Proofs.encStr off d arr) T fz) else w.heap[k]?:=by
 simp only [Go.Sort.putRow,Go.Sort.mapBlock,Array.getElem?_modify]
 by_cases e:blk=k
 ·subst e;simp [h,Go.Sort.onCells]
 ·rw [if_neg e,if_neg (fun h=>e h.symm)]
theorem sorted_world {w w':World} {n blk:Nat} {d:Array Bs} {os:Array Obj} {arr:Array Value} {T:TypeId} {fz:Nat × Nat} (h:w.heap[blk]?=some (.cells arr T fz)) (hw:w'=Go.Sort.grow (Go.Sort.putRow Go.Proofs.encStr (Go.Sort.ahead w n) blk 0 d) os) :
  Bel [blk] w w'∧w'.heap[blk]?=some (.cells (Go.Sort.putCells Go.Proofs.encStr 0 d arr) T fz):=by
 have hp:=put_heap (Go.Sort.ahead w n) (blk:=blk) (off:=0) d (arr:=arr) (T:=T) (fz:=fz) h
 have hs:(Go.Sort.putRow Go.Proofs.encStr (Go.Sort.ahead w n) blk 0 d).heap.size=w.heap.size:=by rw [Go.Sort.size_putRow];rfl
 have hb:=lt_of_heap h
 have hg:∀ k,k < w.heap.size→w'.heap[k]?=(Go.Sort.putRow Go.Proofs.encStr (Go.Sort.ahead w n) blk 0 d).heap[k]?:=fun k hk=>by
  rw [hw]
  exact Go.Sort.heap_grow_old _ _ (by rw [hs];exact hk)
 refine ⟨⟨by rw [hw];rfl,by rw [hw];rfl,by rw [hw];rfl,?_,fun k hk hx=>?_⟩,?_⟩
 ·rw [hw,Go.Sort.size_grow,hs];omega
 ·rw [hg k hk,hp,if_neg (by simpa using hx)]
  rfl
 ·rw [hg blk hb,hp,if_pos rfl]
theorem els_put {l l':List Bs} {arr:Array Value} {cap:Nat} (ha:arr.size=cap*1) (hl:l'.length≤cap) (hx:∀ x∈l',x.length≤MAXL):ElsR m 1 (l'.map strV) (Go.Sort.putCells Go.Proofs.encStr 0 l'.toArray arr):=fun i x hi=>by
 rw [List.getElem?_map] at hi
 obtain ⟨c,hc,rfl⟩:=Option.map_eq_some_iff.1 hi
 have hlt:=(List.getElem?_eq_some_iff.1 hc).1
 refine ⟨rfl,fun j v e=>?_⟩
 have hj:j=0:=by
  rcases Nat.eq_zero_or_pos j with h|h
  ·exact h
  ·rw [List.getElem?_eq_none (by simp [strV,V.cells];omega)] at e;cases e
 subst hj
 obtain rfl:V.str c=v:=by simpa [strV,V.cells] using e
 refine ⟨Gw.str c,?_,rfl,.str (hx c (List.mem_of_getElem? hc))⟩
 unfold Go.Sort.putCells
 have h1:i < arr.size:=by omega
 have h2:i*1+0=i:=by omega
 rw [h2,Array.getElem?_mapIdx,Array.getElem?_eq_getElem h1]
 simp only [Option.map_some]
 have h3:0≤i∧i < 0+l'.toArray.size:=by simp;omega
 rw [if_pos h3]
 have h4:l'.toArray[i-0]! = c:=by
  rw [Nat.sub_zero,getElem!_pos _ _ (by simpa using hlt)]
  simpa using (List.getElem?_eq_some_iff.1 hc).2
 rw [h4]
 rfl
theorem putCells_size {d:Array Bs} {arr:Array Value}:(Go.Sort.putCells Go.Proofs.encStr 0 d arr).size=arr.size:=by simp [Go.Sort.putCells]
theorem own_strs {l:List Bs} {u:Value} (C:Cf w0 m0 [.row 1 (l.map strV)] R m q w) (hv:VR m q (.own 0) u):(u=.slice none 0 0∧l=[]) ∨
  ∃ b cap arr T fz,u=.slice (some ⟨b,0,none⟩) l.length cap∧l.length≤cap∧cap≤MAXL∧q 0=some (some b,l.length,cap,1)∧R b=some (.cells arr T fz)∧arr.size=cap*1∧noFz arr.size fz∧Go.Sort.Holds Go.Proofs.encStr w b 0 l.toArray∧(∀ x∈l,x.length≤MAXL):=by
 obtain ⟨ob,cap,h1,h2,h3,h4,h5⟩:=C.rok.row 0 _ rfl
 simp only [List.length_map] at h1 h2
 cases hv with
 | own hq =>
  rw [h1] at hq;cases hq
  cases ob with
  | none =>
   left
   have:=h4 rfl
   subst this
   obtain rfl:l=[]:=List.length_eq_zero_iff.1 (by omega)
   exact ⟨rfl,rfl⟩
  | some b =>
   right
   obtain ⟨arr,T,fz,g1,g2,g3,g4⟩:=h5 b rfl
   have hx:∀ (i:Nat) (hi:i < l.length),arr[i]?=some (Gw.str l[i])∧l[i].length≤MAXL:=fun i hi=>by
    obtain ⟨u,e1,-,e3⟩:=(g3 i (strV l[i]) (by simp [hi])).2 0 (strV l[i]) (by simp [strV,V.cells])
    have:=vr_str e3
    rw [show i*1+0=i by omega] at e1
    rw [e1,this.1]
    exact ⟨rfl,this.2⟩
   refine ⟨b,cap,arr,T,fz,rfl,h2,h3,h1,g1,g2,g4.1,fun j hj=>?_,fun x hx'=>?_⟩
   ·have hj':j < l.length:=by simpa using hj
    have hb:=(C.sit.own _ _ g1).2.1
    have e:=(hx j hj').1
    have hlt:=(Array.getElem?_eq_some_iff.1 e).1
    refine ⟨?_,?_⟩
    ·simp only [World.cell?,hb,Option.isSome_none,Bool.false_eq_true,if_false,Nat.zero_add]
     rw [e]
     congr 1
     rw [getElem!_pos _ _ (by simpa using hj')]
     simp
     rfl
    ·simp only [World.frozen?,hb,Nat.zero_add]
     have:=g4.1 j hlt
     simpa using this
   ·obtain ⟨i,hi,rfl⟩:=List.getElem_of_mem hx'
    exact (hx i hi).2
theorem Cf.strs_put {l l':List Bs} {b cap:Nat} {arr:Array Value} {T:TypeId} {fz:Nat × Nat} (C:Cf w0 m0 [.row 1 (l.map strV)] R m q w) (hq:q 0=some (some b, l.length, cap, 1)) (hR:R b=some (.cells arr T fz)) (ha:arr.size=cap*1) (hz:noFz arr.size fz) (hcap:cap≤MAXL)
  (hlc:l.length≤cap) (hl:l'.length=l.length) (hx:∀ x∈l',x.length≤MAXL) (hb:Bel [b] w w') (hh:w'.heap[b]?=some (.cells (Go.Sort.putCells Go.Proofs.encStr 0 l'.toArray arr) T fz)) :
  Cf w0 m0 [.row 1 (l'.map strV)] (R.put b (.cells (Go.Sort.putCells Go.Proofs.encStr 0 l'.toArray arr) T fz)) m q w':=by
 have:=C.store (r:=0) (x:=.row 1 (l.map strV)) (y:=.row 1 (l'.map strV)) rfl rfl hq hR hb hh ?_
 ·exact this
 refine ⟨some b,cap,by simpa [hl] using hq,by simpa [hl] using hlc,hcap,(fun h=>by cases h),fun b' e=>?_⟩
 cases e
 exact ⟨_,T,fz,by simp [Mem.put],by rw [putCells_size];exact ha,els_put (l:=l) ha (by omega) hx,noFk1 (by rw [putCells_size];exact hz)⟩
end
def sortB (l:List Bs):List Bs:=l.mergeSort fun x y=>decide (x≤y)
omit [Glob] in
theorem sortB_perm (l:List Bs):(sortB l).Perm l:=List.mergeSort_perm l _
omit [Glob] in
theorem sortB_len (l:List Bs):(sortB l).length=l.length:=List.length_mergeSort l
def onceB (l:List Bs):List Bs:=Lib.compact l
omit [Glob] in
theorem onceB_sub (l:List Bs):∀ x∈onceB l,x∈l:=fun x hx=>by
 unfold onceB Lib.compact Lib.compactUpTo at hx
 obtain ⟨i,hi,rfl⟩:=List.mem_map.1 hx
 have hi2:=(List.mem_filter.1 hi).1
 have hlt:i < l.length:=by simpa using hi2
 rw [getElem!_pos _ _ (by simpa using hlt)]
 simp
omit [Glob] in
theorem onceB_len (l:List Bs):(onceB l).length≤l.length:=by
 unfold onceB Lib.compact Lib.compactUpTo
 rw [List.length_map]
 refine Nat.le_trans (List.length_filter_le _ _) ?_
 simp
theorem vrl_one {m:Mem} {q:Loc} {v:V} {us:List Value} (h:VRL m q [v] us):∃ u,us=[u]∧VR m q v u:=by
 have hl:=h.len
 match us,hl with
 | [u],_=>exact ⟨u,rfl,h.el 0 v u rfl rfl⟩
end Gv
end PartAd2
section PartP3
namespace Gv
open Go Gp
theorem idx_one (a:UInt8):∀ s:Bs,(Lib.index s [a]=-1∧a ∉ s)∨∃ p r,s=p++a::r∧a ∉ p∧Lib.index s [a]=(p.length:Int)
 | []=>.inl ⟨rfl,by simp⟩
 | b::l=>by
  unfold Lib.index
  have e:[a].isPrefixOf (b::l)=(a == b):=by simp [List.isPrefixOf]
  rw [e]
  by_cases h:a=b
  ·subst h
   right
   exact ⟨[],l,rfl,by simp,by simp⟩
  ·have hb:(a == b)=false:=by simpa using h
   rw [hb]
   rcases idx_one a l with ⟨h1,h2⟩|⟨p,r,rfl,h2,h3⟩
   ·left
    refine ⟨?_,by simp [h,h2]⟩
    rw [h1];rfl
   ·right
    refine ⟨b::p,r,rfl,by simp [h,h2],?_⟩
    rw [h3]
    have:((p.length:Int) == -1)=false:=by simp
    simp only [this,Bool.false_eq_true,if_false,List.length_cons]
    omega
theorem split_no {a:UInt8} {s:Bs} (h:a ∉ s):Lib.split s [a]=[s]:=by
 unfold Lib.split
 rw [Lib.count_one,List.count_eq_zero.2 h]
 rfl
theorem idx_at {a:UInt8} {p:Bs} (h:a ∉ p) (r:Bs):Lib.index (p++a::r) [a]=(p.length:Int):=by
 rcases idx_one a (p++a::r) with ⟨-,h2⟩|⟨p',r',e,h2,h3⟩
 ·simp at h2
 ·have:p=p' := by
   rcases List.append_eq_append_iff.1 e with ⟨x,hx,hy⟩|⟨x,hx,hy⟩
   ·cases x with
    | nil=>simpa using hx.symm
    | cons c x =>
     simp only [List.cons_append,List.cons.injEq] at hy
     rw [hx,←hy.1] at h2
     simp at h2
   ·cases x with
    | nil=>simpa using hx
    | cons c x =>
     simp only [List.cons_append,List.cons.injEq] at hy
     rw [hx,←hy.1] at h
     simp at h
  rw [h3,this]
theorem split_at {a:UInt8} {p:Bs} (h:a ∉ p) (r:Bs):Lib.split (p++a::r) [a]=p::Lib.split r [a]:=by
 have hi:=idx_at h r
 unfold Lib.split
 have hc:Lib.count (p++a::r) [a]=Lib.count r [a]+1:=by
  rw [Lib.count_one,Lib.count_one,List.count_append,List.count_eq_zero.2 h]
  simp
 rw [hc,Lib.splitK,hi]
 have:((p.length:Int) == -1)=false:=by simp
 simp only [this,Bool.false_eq_true,if_false,Int.toNat_natCast,Nat.add_zero,List.take_left,List.length_singleton,List.cons.injEq,true_and]
 have e:(p++a::r).drop (p.length+1)=r:=by
  rw [←List.drop_drop]
  simp
 rw [e]
theorem splitK_sz (sep:Bs):∀ (k:Nat) (s:Bs),∀ x∈Lib.splitK sep 0 k s,x.length≤s.length
 | 0,s,x,hx=>by simp [Lib.splitK] at hx;subst hx;exact Nat.le_refl _
 | k+1,s,x,hx=>by
  unfold Lib.splitK at hx
  split at hx
  ·simp at hx;subst hx;exact Nat.le_refl _
  ·rcases List.mem_cons.1 hx with rfl|hx
   ·simp;omega
   ·have:=splitK_sz sep k _ x hx
    simp at this;omega
theorem split_ne (s sep:Bs):Lib.split s sep≠[]:=by
 unfold Lib.split
 generalize Lib.count s sep=k
 cases k with
 | zero=>simp [Lib.splitK]
 | succ k=>unfold Lib.splitK;split<;>simp
theorem replace_one (a b:UInt8):∀ s:Bs,Lib.replaceAll s [a] [b]=s.map fun c=>if c=a then b else c:=by
 have key:∀ (k:Nat) (s:Bs),s.count a=k→Lib.replaceK [a] [b] k s=s.map fun c=>if c=a then b else c:=by
  intro k
  induction k with
  | zero =>
   intro s h
   have hn:a ∉ s:=List.count_eq_zero.1 h
   unfold Lib.replaceK
   have:s.map (fun c=>if c=a then b else c)=s.map id:=List.map_congr_left fun c hc=>by
    rw [if_neg (fun e=>hn (by rw [←e];exact hc))];rfl
   rw [this,List.map_id]
  | succ k ih =>
   intro s h
   rcases idx_one a s with ⟨-,h2⟩|⟨p,r,rfl,h2,h3⟩
   ·rw [List.count_eq_zero.2 h2] at h;cases h
   ·have hr:r.count a=k := by
     rw [List.count_append,List.count_eq_zero.2 h2] at h
     simp at h
     exact h
    rw [Lib.replaceK_hit _ _ _ _ _ h3,List.take_left,List.length_singleton,←List.drop_drop,List.drop_left]
    simp only [List.drop_succ_cons,List.drop_zero,List.map_append,List.map_cons,if_true]
    rw [ih r hr]
    have:p.map (fun c=>if c=a then b else c)=p.map id:=List.map_congr_left fun c hc=>by
     rw [if_neg (fun e=>h2 (by rw [←e];exact hc))];rfl
    rw [this,List.map_id]
    simp
 intro s
 unfold Lib.replaceAll Lib.replace
 by_cases h:a=b
 ·subst h
  have:s.map (fun c=>if c=a then a else c)=s.map id:=List.map_congr_left fun c hc=>by
   by_cases e:c=a
   ·rw [if_pos e,e];rfl
   ·rw [if_neg e];rfl
  rw [this,List.map_id]
  simp
 ·have h1:(([a]:Bs) == [b])=false:=by simpa using h
  rw [h1]
  simp only [Bool.false_eq_true,if_false]
  have h2:Lib.replaceNum s [a] (-1)=s.count a:=by
   unfold Lib.replaceNum
   rw [if_pos (by omega),Lib.count_one]
  rw [h2]
  exact key _ s rfl
def dropE (l:List Bs):List Bs:=if l.getLast?=some [] then l.dropLast else l
theorem split_lines (b:Bs):dropE (Lib.split b [10])=linesOf b:=by
 induction b using line_ind with
 | h0=>rfl
 | h1 a h h0 =>
  rw [split_no h,linesOf_no h h0]
  unfold dropE
  rw [if_neg (by simpa using h0)]
 | h2 a r h ih =>
  rw [split_at h,linesOf_nl h,←ih]
  have hne:=split_ne r [10]
  unfold dropE
  rw [List.getLast?_cons_of_ne_nil hne,List.dropLast_cons_of_ne_nil hne]
  split<;>rfl
theorem join_put:∀ l:List Bs,(if 0 < l.length then Lib.join l [10]++[10] else Lib.join l [10])=put l
 | []=>rfl
 | [s]=>by simp [Lib.join,put,List.intercalate]
 | s::t::r=>by
  have ih:=join_put (t::r)
  simp only [List.length_cons,Nat.zero_lt_succ,if_true] at ih ⊢
  unfold put
  rw [←ih]
  simp [Lib.join,List.intercalate,List.intersperse]
def oneC (c:Cmd) (s:Bs):Bs × Bool :=
 if c.kind=1 then (s,Lib.contains s c.word) else if c.kind=2 then (s,!Lib.contains s c.word)
 else if c.kind=3 then (Lib.replaceAll s (c.word.take 1) (c.word.drop 1),true)
 else if c.kind=4 then (if ((Lib.split s [32]).length:Int) < c.n then [] else (Lib.split s [32]).getD (c.n-1).toNat [],true)
 else (s.reverse,true)
def outC (c:Cmd) (s:Bs):Option Bs:=match oneC c s with|(t,true)=>some t|(_,false)=>none
def linesC (c:Cmd) (l:List Bs):List Bs :=
 if c.kind=6 then sortB l else if c.kind=7 then onceB l else if c.kind=8 then [Lib.itoa l.length]
 else if c.kind=9 then l.take c.n.toNat else if c.kind=10 then l.drop (l.length-c.n.toNat) else l.filterMap (outC c)
theorem word2 {c:Cmd} (h:checkCmd c=0) (h3:c.kind=3):∃ a b,c.word=[a,b]:=by
 have:c.word.length=2:=by
  unfold checkCmd at h
  repeat' split at h
  all_goals first|(cases h;done)|grind
 match hw:c.word,this with
 | [a,b],_=>exact ⟨a,b,rfl⟩
theorem one_len {c:Cmd} (h:checkCmd c=0) (s:Bs):(oneC c s).1.length≤s.length:=by
 unfold oneC
 split
 ·exact Nat.le_refl _
 split
 ·exact Nat.le_refl _
 split
 ·rename_i h3
  obtain ⟨a,b,e⟩:=word2 h h3
  rw [e]
  show (Lib.replaceAll s [a] [b]).length≤_
  rw [replace_one]
  simp
 split
 ·dsimp only
  split
  ·simp
  ·rename_i h4 h5
   by_cases hi:(c.n-1).toNat < (Lib.split s [32]).length
   ·have e:(Lib.split s [32]).getD (c.n-1).toNat []=(Lib.split s [32])[(c.n-1).toNat]:=by rw [List.getD_eq_getElem?_getD,List.getElem?_eq_getElem hi];rfl
    rw [e]
    exact splitK_sz [32] _ s _ (List.getElem_mem hi)
   ·have e:(Lib.split s [32]).getD (c.n-1).toNat []=[]:=by rw [List.getD_eq_getElem?_getD,List.getElem?_eq_none (by omega)];rfl
    rw [e]
    simp
 ·simp
theorem put_sum:∀ l:List Bs,(put l).length=(l.map fun s=>s.length+1).sum
 | []=>rfl
 | s::r=>by
  unfold put
  simp [put_sum r]
  omega
theorem put_perm {l l':List Bs} (h:l.Perm l'):(put l).length=(put l').length:=by
 rw [put_sum,put_sum]
 exact (h.map _).sum_nat
theorem put_sub {l l':List Bs} (h:l.Sublist l'):(put l).length≤(put l').length:=by
 induction h with
 | slnil=>exact Nat.le_refl _
 | cons a h ih=>simp only [put,List.length_append,List.length_cons];omega
 | cons_cons a h ih=>simp only [put,List.length_append,List.length_cons];omega
theorem out_len {c:Cmd} (h:checkCmd c=0) {s t:Bs} (ht:outC c s=some t):t.length≤s.length:=by
 have h1:=one_len h s
 unfold outC at ht
 split at ht
 ·rename_i u hu
  rw [hu] at h1
  cases ht
  exact h1
 ·cases ht
theorem put_filterMap {c:Cmd} (h:checkCmd c=0):∀ l:List Bs,(put (l.filterMap (outC c))).length≤(put l).length
 | []=>Nat.le_refl _
 | s::r=>by
  have ih:=put_filterMap h r
  rw [List.filterMap_cons]
  split
  ·simp only [put,List.length_append,List.length_cons]
   omega
  ·rename_i t ht
   have:=out_len h ht
   simp only [put,List.length_append,List.length_cons]
   omega
theorem itoa_len (n:Int) (h : -9223372036854775808≤n∧n≤9223372036854775807):(Lib.itoa n).length≤24:=by
 unfold Lib.itoa
 split
 ·have:=Lib.nDigits_le20 n.natAbs (by omega)
  simp only [List.length_cons,Lib.decDigits_length]
  omega
 ·have:=Lib.nDigits_le20 n.toNat (by omega)
  rw [Lib.decDigits_length]
  omega
theorem onceB_sublist (l:List Bs):(onceB l).Sublist l:=by
 unfold onceB Lib.compact Lib.compactUpTo
 have e:l=(List.range l.length).map fun i=>l.toArray[i]!:=by
  refine List.ext_getElem (by simp) fun i h1 h2=>?_
  simp [h1]
 refine (List.filter_sublist.map _).trans ?_
 rw [←e]
 exact List.Sublist.refl _
theorem sortB_of {l l':List Bs} (hp:l.Perm l') (hs:l'.Pairwise (·≤·)):sortB l=l':=by
 have tr:∀ a b c:Bs,decide (a≤b)=true→decide (b≤c)=true→decide (a≤c)=true:=fun a b c h1 h2=>by
  simp only [decide_eq_true_eq] at *
  exact List.le_trans h1 h2
 have tot:∀ a b:Bs,(decide (a≤b) || decide (b≤a))=true:=fun a b=>by
  simp only [Bool.or_eq_true,decide_eq_true_eq]
  exact List.le_total a b
 have h1:=List.pairwise_mergeSort tr tot l
 refine List.Perm.eq_of_pairwise (le:=fun a b:Bs=>a≤b) ?_ (h1.imp fun h=>by simpa using h) hs ((sortB_perm l).trans hp)
 intro a b _ _ h1 h2
 exact List.le_antisymm h1 h2
end Gv
end PartP3
section PartP4
namespace Gv
open Go Gp
def lsV (l:List Bs):V:=.sl strV l
theorem less_eq (a b:Bs):Op.bytesLess a b=decide (a < b):=Go.Proofs.bytesLess_eq a b
theorem sortB_pairwise (l:List Bs):(sortB l).Pairwise (·≤·):=by
 have tr:∀ a b c:Bs,decide (a≤b)=true→decide (b≤c)=true→decide (a≤c)=true:=fun a b c h1 h2=>by
  simp only [decide_eq_true_eq] at *
  exact List.le_trans h1 h2
 have tot:∀ a b:Bs,(decide (a≤b) || decide (b≤a))=true:=fun a b=>by
  simp only [Bool.or_eq_true,decide_eq_true_eq]
  exact List.le_total a b
 exact (List.pairwise_mergeSort tr tot l).imp fun h=>by simpa using h
theorem sortB_congr {l l':List Bs} (h:l.Perm l'):sortB l=sortB l':=sortB_of (h.trans (sortB_perm l').symm) (sortB_pairwise l')
theorem noNl_perm {l l':List Bs} (h:l.Perm l') (hn:NoNl l'):NoNl l:=fun s hs=>hn s (h.mem_iff.1 hs)
theorem noNl_sub {l l':List Bs} (h:l.Sublist l') (hn:NoNl l'):NoNl l:=fun s hs=>hn s (h.subset hs)
theorem put_lines (b:Bs):(put (linesOf b)).length≤b.length+1:=whole_len b
end Gv
end PartP4
section PartP5
namespace Gv
open Go Gp
def Apart (l:List Bs):Prop:=∀ i (h:i+1 < l.length),l[i+1]≠l[i]
theorem apart_snoc {l:List Bs} {x:Bs} (h:Apart l) (hx:∀ y,l.getLast?=some y→x≠y):Apart (l++[x]):=by
 intro i hi
 rw [List.length_append] at hi
 simp only [List.length_cons,List.length_nil] at hi
 by_cases h1:i+1 < l.length
 ·rw [List.getElem_append_left h1,List.getElem_append_left (by omega)]
  exact h i h1
 ·have e:i+1=l.length:=by omega
  rw [List.getElem_append_left (show i < l.length by omega),List.getElem_append_right (by omega)]
  have:[x][i+1-l.length]'(by simp;omega)=x:=by
   simp [e]
  rw [this]
  refine hx _ ?_
  rw [List.getLast?_eq_getElem?,show l.length-1=i by omega,List.getElem?_eq_getElem]
theorem upto_apart (l:List Bs):∀ m,m≤l.length→Apart (Lib.compactUpTo l.toArray m)∧(0 < m→(Lib.compactUpTo l.toArray m).getLast?=some (l.toArray[m-1]!))
 | 0,_=>⟨fun i h=>by simp [Lib.compactUpTo] at h,fun h=>by omega⟩
 | m+1,hm=>by
  obtain ⟨h1,h2⟩:=upto_apart l m (by omega)
  rw [Lib.compactUpTo_succ]
  cases hk:Lib.keeps l.toArray m with
  | true =>
   simp only [if_true]
   refine ⟨apart_snoc h1 fun y hy=>?_,fun _=>by simp⟩
   rcases Nat.eq_zero_or_pos m with h0|h0
   ·subst h0
    simp [Lib.compactUpTo] at hy
   ·rw [h2 h0] at hy
    cases hy
    have:=of_decide_eq_true hk
    rcases this with h|h
    ·omega
    ·exact h
  | false =>
   simp only [Bool.false_eq_true,if_false,List.append_nil]
   refine ⟨h1,fun _=>?_⟩
   have h0:0 < m:=by
    rcases Nat.eq_zero_or_pos m with h0|h0
    ·subst h0
     rw [Lib.keeps_lt_one _ 0 (by omega)] at hk
     cases hk
    ·exact h0
   have hd:=of_decide_eq_false hk
   have he:l.toArray[m]! = l.toArray[m-1]!:=by
    by_cases h:l.toArray[m]! = l.toArray[m-1]!
    ·exact h
    ·exact absurd (.inr h) hd
   rw [h2 h0]
   simp only [Nat.add_sub_cancel]
   rw [he]
theorem onceB_apart (l:List Bs):Apart (onceB l):=(upto_apart l l.length (Nat.le_refl _)).1
theorem compact_idem (l:List Bs):onceB (onceB l)=onceB l:=by
 have ha:=onceB_apart l
 generalize onceB l=e at ha
 refine Lib.compact_all e fun j hj=>?_
 rcases Nat.eq_zero_or_pos j with h0|h0
 ·subst h0
  exact Lib.keeps_lt_one _ 0 (by omega)
 ·refine Lib.keeps_pos ?_
  have:=ha (j-1) (by omega)
  rw [getElem!_pos _ _ (by simpa using hj),getElem!_pos _ _ (by simp;omega)]
  simp only [List.getElem_toArray]
  have e2:j-1+1=j:=by omega
  simp only [e2] at this
  exact this
theorem word_no10 {c:Cmd} (h:checkCmd c=0) (hu:useWord c=true):∀ z∈c.word,z≠10:=by
 have hw:isWord c.word=true:=by
  unfold checkCmd at h
  grind
 intro z hz e
 unfold isWord at hw
 simp only [Bool.and_eq_true,List.all_eq_true] at hw
 have:=hw.2 z hz
 subst e
 revert this
 decide
theorem split_mem (sep:Bs):∀ (k:Nat) (s:Bs),∀ x∈Lib.splitK sep 0 k s,∀ z∈x,z∈s
 | 0,s,x,hx,z,hz=>by simp [Lib.splitK] at hx;subst hx;exact hz
 | k+1,s,x,hx,z,hz=>by
  unfold Lib.splitK at hx
  split at hx
  ·simp at hx;subst hx;exact hz
  ·rcases List.mem_cons.1 hx with rfl|hx
   ·exact List.mem_of_mem_take hz
   ·exact List.mem_of_mem_drop (split_mem sep k _ x hx z hz)
theorem outC_no10 {c:Cmd} (h:checkCmd c=0) {s t:Bs} (ht:outC c s=some t) (hs:(10:UInt8) ∉ s):(10:UInt8) ∉ t:=by
 have e:t=(oneC c s).1:=by
  unfold outC at ht
  split at ht
  ·rename_i u hu
   rw [hu]
   exact (Option.some.inj ht).symm
  ·cases ht
 subst e
 unfold oneC
 split
 ·exact hs
 split
 ·exact hs
 split
 ·rename_i h3
  obtain ⟨a,b,hw⟩:=word2 h h3
  have hb:=word_no10 h (by unfold useWord;rw [h3];rfl) b (by rw [hw];simp)
  rw [hw]
  show (10:UInt8) ∉ Lib.replaceAll s [a] [b]
  rw [replace_one]
  intro hm
  obtain ⟨z,hz,e⟩:=List.mem_map.1 hm
  split at e
  ·exact hb e
  ·exact hs (e ▸ hz)
 split
 ·dsimp only
  split
  ·simp
  ·intro hm
   by_cases hi:(c.n-1).toNat < (Lib.split s [32]).length
   ·rw [List.getD_eq_getElem?_getD,List.getElem?_eq_getElem hi] at hm
    exact hs (split_mem [32] _ s _ (List.getElem_mem hi) 10 hm)
   ·rw [List.getD_eq_getElem?_getD,List.getElem?_eq_none (by omega)] at hm
    simp at hm
 ·simpa using hs
theorem linesC_noNl {c:Cmd} (h:checkCmd c=0) (h8:c.kind≠8) {l:List Bs} (hl:NoNl l):NoNl (linesC c l):=by
 unfold linesC
 split
 ·exact noNl_perm (sortB_perm l) hl
 split
 ·exact noNl_sub (onceB_sublist l) hl
 split
 ·exact noNl_sub (List.take_sublist _ _) hl
 split
 ·exact noNl_sub (List.drop_sublist _ _) hl
 ·intro t ht
  obtain ⟨s,hs,e⟩:=List.mem_filterMap.1 ht
  exact outC_no10 h e (hl s hs)
end Gv
end PartP5
section PartP7
namespace Gv
open Go Gp
def bestStep (b:Option (Nat × Bs)) (i:Nat) (l:List Bs):Option (Nat × Bs) :=
 match l with
 | []=>b
 | s::_=>match b with
  | none=>some (i,s)
  | some (j,t)=>if Op.bytesLess s t=true then some (i,s) else some (j,t)
def best (parts:List (List Bs)):Nat→Option (Nat × Bs)
 | 0=>none
 | i+1=>bestStep (best parts i) i (parts.getD i [])
def mergeN:Nat→List (List Bs)→List Bs
 | 0,_=>[]
 | n+1,parts=>match best parts parts.length with
  | none=>[]
  | some (j,s)=>s::mergeN n (parts.set j ((parts.getD j []).drop 1))
def mergeB (parts:List (List Bs)):List Bs:=mergeN parts.flatten.length parts
theorem best_none {parts:List (List Bs)}:∀ {i:Nat},best parts i=none→∀ k,k < i→parts.getD k []=[]
 | 0,_,k,hk=>by omega
 | i+1,h,k,hk=>by
  unfold best bestStep at h
  split at h
  ·rename_i e
   rcases Nat.lt_or_ge k i with h1|h1
   ·exact best_none h k h1
   ·have:k=i:=by omega
    rw [this,e]
  ·split at h
   ·cases h
   ·split at h<;>cases h
theorem best_some {parts:List (List Bs)}:∀ {i j:Nat} {s:Bs},best parts i=some (j,s)→j < i∧(∃ t,parts.getD j []=s::t)∧∀ k,k < i→∀ x t,parts.getD k []=x::t→¬ x < s
 | 0,j,s,h=>by cases h
 | i+1,j,s,h=>by
  unfold best bestStep at h
  split at h
  ·rename_i e
   obtain ⟨h1,h2,h3⟩:=best_some h
   refine ⟨by omega,h2,fun k hk x t hx=>?_⟩
   rcases Nat.lt_or_ge k i with h4|h4
   ·exact h3 k h4 x t hx
   ·have:k=i:=by omega
    subst this
    rw [e] at hx;cases hx
  ·rename_i s' r e
   split at h
   ·rename_i hb
    cases h
    refine ⟨by omega,⟨_,e⟩,fun k hk x t hx=>?_⟩
    rcases Nat.lt_or_ge k i with h4|h4
    ·rw [best_none hb k h4] at hx;cases hx
    ·have:k=i:=by omega
     subst this
     rw [e] at hx;cases hx
     exact List.lt_irrefl _
   ·rename_i j' t' hb
    obtain ⟨h1,h2,h3⟩:=best_some hb
    split at h
    ·rename_i hl
     rw [less_eq,decide_eq_true_eq] at hl
     cases h
     refine ⟨by omega,⟨_,e⟩,fun k hk x t hx=>?_⟩
     rcases Nat.lt_or_ge k i with h4|h4
     ·intro h5
      exact h3 k h4 x t hx (List.lt_trans h5 hl)
     ·have:k=i:=by omega
      subst this
      rw [e] at hx;cases hx
      exact List.lt_irrefl _
    ·rename_i hl
     rw [less_eq,decide_eq_true_eq] at hl
     cases h
     refine ⟨by omega,h2,fun k hk x t hx=>?_⟩
     rcases Nat.lt_or_ge k i with h4|h4
     ·exact h3 k h4 x t hx
     ·have:k=i:=by omega
      subst this
      rw [e] at hx;cases hx
      exact hl
theorem all_nil {parts:List (List Bs)} (h:∀ k,k < parts.length→parts.getD k []=[]):parts.flatten=[]:=by
 rw [List.flatten_eq_nil_iff]
 intro x hx
 obtain ⟨k,hk,rfl⟩:=List.getElem_of_mem hx
 have:=h k hk
 rwa [List.getD_eq_getElem?_getD,List.getElem?_eq_getElem hk] at this
theorem getD_lt {parts:List (List Bs)} {j:Nat} {s:Bs} {t:List Bs} (h:parts.getD j []=s::t):j < parts.length∧parts=parts.take j++(s::t)::parts.drop (j+1):=by
 have hj:j < parts.length:=by
  rcases Nat.lt_or_ge j parts.length with h1|h1
  ·exact h1
  ·rw [List.getD_eq_getElem?_getD,List.getElem?_eq_none h1] at h;cases h
 refine ⟨hj,?_⟩
 rw [List.getD_eq_getElem?_getD,List.getElem?_eq_getElem hj] at h
 have:parts[j]=s::t:=h
 rw [←this,List.getElem_cons_drop,List.take_append_drop]
theorem set_part {parts:List (List Bs)} {j:Nat} {s:Bs} {t:List Bs} (h:parts.getD j []=s::t):parts.set j ((parts.getD j []).drop 1)=parts.take j++t::parts.drop (j+1):=by
 obtain ⟨hj,-⟩:=getD_lt h
 rw [h,List.set_eq_take_append_cons_drop,if_pos hj]
 rfl
theorem flat_part {parts:List (List Bs)} {j:Nat} {s:Bs} {t:List Bs} (h:parts.getD j []=s::t):(s::(parts.set j ((parts.getD j []).drop 1)).flatten).Perm parts.flatten:=by
 obtain ⟨hj,e⟩:=getD_lt h
 rw [set_part h]
 have e2:parts.flatten=(parts.take j).flatten++(s::(t++(parts.drop (j+1)).flatten)):=by
  have:=congrArg List.flatten e
  rw [this]
  simp
 rw [e2]
 simp only [List.flatten_append,List.flatten_cons]
 exact (List.perm_middle).symm
theorem mergeB_step {parts:List (List Bs)} {j:Nat} {s:Bs} (h:best parts parts.length=some (j,s)):mergeB parts=s::mergeB (parts.set j ((parts.getD j []).drop 1)):=by
 obtain ⟨h1,⟨t,h2⟩,-⟩:=best_some h
 have hl:=(flat_part h2).length_eq
 rw [List.length_cons] at hl
 unfold mergeB
 rw [←hl,mergeN,h]
theorem mergeB_none {parts:List (List Bs)} (h:best parts parts.length=none):mergeB parts=[]:=by
 have:=all_nil (best_none h)
 unfold mergeB
 rw [this]
 rfl
theorem merge_ind {P:List (List Bs)→Prop} (h0:∀ p,best p p.length=none→P p) (h1:∀ p j s t,best p p.length=some (j,s)→p.getD j []=s::t→P (p.set j ((p.getD j []).drop 1))→P p):∀ p,P p:=by
 intro p
 generalize hn:p.flatten.length=n
 induction n generalizing p with
 | zero =>
  cases h:best p p.length with
  | none=>exact h0 p h
  | some x =>
   obtain ⟨j,s⟩:=x
   obtain ⟨-,⟨t,h2⟩,-⟩:=best_some h
   have:=(flat_part h2).length_eq
   rw [List.length_cons] at this
   omega
 | succ n ih =>
  cases h:best p p.length with
  | none=>exact h0 p h
  | some x =>
   obtain ⟨j,s⟩:=x
   obtain ⟨-,⟨t,h2⟩,-⟩:=best_some h
   have hl:=(flat_part h2).length_eq
   rw [List.length_cons] at hl
   exact h1 p j s t h h2 (ih _ (by omega))
theorem mergeB_perm:∀ p:List (List Bs),(mergeB p).Perm p.flatten:=by
 intro p
 induction p using merge_ind with
 | h0 p h=>rw [mergeB_none h,all_nil (best_none h)]
 | h1 p j s t h h2 ih =>
  rw [mergeB_step h]
  exact (ih.cons s).trans (flat_part h2)
theorem mergeB_sorted:∀ p:List (List Bs),(∀ l∈p,l.Pairwise (·≤·))→(mergeB p).Pairwise (·≤·):=by
 intro p
 induction p using merge_ind with
 | h0 p h=>intro _;rw [mergeB_none h];exact List.Pairwise.nil
 | h1 p j s t h h2 ih =>
  intro hp
  obtain ⟨hj,e⟩:=getD_lt h2
  obtain ⟨-,-,h3⟩:=best_some h
  have hs:∀ l∈p.set j ((p.getD j []).drop 1),l.Pairwise (·≤·):=fun l hl=>by
   rw [set_part h2] at hl
   rw [e] at hp
   simp only [List.mem_append,List.mem_cons] at hl hp
   rcases hl with hl|rfl|hl
   ·exact hp l (.inl hl)
   ·exact (List.pairwise_cons.1 (hp (s::l) (.inr (.inl rfl)))).2
   ·exact hp l (.inr (.inr hl))
  rw [mergeB_step h,List.pairwise_cons]
  refine ⟨fun x hx=>?_,ih hs⟩
  have hx2:x∈p.flatten:=(flat_part h2).mem_iff.1 (List.mem_cons_of_mem _ ((mergeB_perm _).mem_iff.1 hx))
  obtain ⟨l,hl,hxl⟩:=List.mem_flatten.1 hx2
  obtain ⟨k,hk,rfl⟩:=List.getElem_of_mem hl
  cases hq:p[k] with
  | nil=>rw [hq] at hxl;cases hxl
  | cons y r =>
   have hy:¬ y < s:=h3 k hk y r (by rw [List.getD_eq_getElem?_getD,List.getElem?_eq_getElem hk];exact hq)
   have hsy:s≤y:=hy
   rw [hq] at hxl
   rcases List.mem_cons.1 hxl with rfl|hxr
   ·exact hsy
   ·have:=hp _ hl
    rw [hq,List.pairwise_cons] at this
    exact List.le_trans hsy (this.1 x hxr)
theorem mergeB_eq {p:List (List Bs)} (h:∀ l∈p,l.Pairwise (·≤·)):mergeB p=sortB p.flatten:=(sortB_of (mergeB_perm p).symm (mergeB_sorted p h)).symm
def numOf (s:Bs):Int:=match Lib.atoiAll s with|.ok k=>if 0≤k∧k≤4000∧Lib.itoa k=s then k else 0|_=>0
def numH (l:List Bs):Int:=match l with|[]=>0|s::_=>numOf s
def sumN (parts:List (List Bs)):Nat→Int
 | 0=>0
 | i+1=>sumN parts i+numH (parts.getD i [])
theorem numOf_bnd (s:Bs):0≤numOf s∧numOf s≤4000:=by
 unfold numOf
 split
 ·split<;>omega
 ·omega
theorem numH_bnd (l:List Bs):0≤numH l∧numH l≤4000:=by
 cases l with
 | nil=>simp [numH]
 | cons s r=>exact numOf_bnd s
theorem sumN_bnd (parts:List (List Bs)):∀ i,0≤sumN parts i∧sumN parts i≤4000*i
 | 0=>by simp [sumN]
 | i+1=>by
  have h1:=sumN_bnd parts i
  have h2:=numH_bnd (parts.getD i [])
  unfold sumN
  omega
theorem pu_cons (acc:Nat) (c:UInt8) (r:Bs):Lib.parseUint10 acc (c::r)=if 48≤c.toNat∧c.toNat≤57 then if 1844674407370955162≤acc then .range else if 18446744073709551616≤acc*10+(c.toNat-48) then .range else Lib.parseUint10 (acc*10+(c.toNat-48)) r else Lib.NumEnd.syntax:=rfl
theorem parseUint_app:∀ (a b:Bs) (acc:Nat),Lib.parseUint10 acc (a++b)=match Lib.parseUint10 acc a with|.ok u=>Lib.parseUint10 u b|Lib.NumEnd.syntax=>Lib.NumEnd.syntax|.range=>.range
 | [],b,acc=>rfl
 | c::a,b,acc=>by
  rw [List.cons_append,pu_cons,pu_cons]
  split
  ·split
   ·rfl
   ·split
    ·rfl
    ·exact parseUint_app a b _
  ·rfl
theorem parse_dec (u:Nat) (h:u < 1844674407370955161):Lib.parseUint10 0 (Lib.decDigits u)=.ok u:=by
 induction u using Nat.strongRecOn with
 | _ u ih =>
  rw [Lib.decDigits]
  split
  ·rename_i h1
   have e:(UInt8.ofNat (48+u)).toNat=48+u:=by
    rw [UInt8.toNat_ofNat'];omega
   unfold Lib.parseUint10
   rw [e,if_pos (by omega),if_neg (by omega),if_neg (by omega)]
   unfold Lib.parseUint10
   congr 1;omega
  ·rename_i h1
   rw [parseUint_app,ih (u / 10) (by omega) (by omega)]
   have e:(UInt8.ofNat (48+u % 10)).toNat=48+u % 10:=by
    rw [UInt8.toNat_ofNat'];omega
   dsimp only
   unfold Lib.parseUint10
   rw [e,if_pos (by omega),if_neg (by omega),if_neg (by omega)]
   unfold Lib.parseUint10
   congr 1;omega
theorem dec_bytes (u:Nat):∀ c∈Lib.decDigits u,48≤c.toNat∧c.toNat≤57:=by
 induction u using Nat.strongRecOn with
 | _ u ih =>
  rw [Lib.decDigits]
  split
  ·intro c hc
   simp at hc
   subst hc
   rw [UInt8.toNat_add,UInt8.toNat_ofNat']
   simp;omega
  ·intro c hc
   rcases List.mem_append.1 hc with hc|hc
   ·exact ih (u / 10) (by omega) c hc
   ·simp at hc
    subst hc
    rw [UInt8.toNat_add,UInt8.toNat_ofNat']
    simp;omega
theorem dec_ne (u:Nat):Lib.decDigits u≠[]:=by
 rw [Lib.decDigits]
 split<;>simp
theorem atoi_itoa {n:Nat} (h:n < 1844674407370955161):Lib.atoiAll (Lib.itoa n)=.ok (n:Int):=by
 rw [Lib.itoa_nonneg]
 have hp:=parse_dec n h
 cases hd:Lib.decDigits n with
 | nil=>exact absurd hd (dec_ne n)
 | cons c r =>
  have hc:=dec_bytes n c (by rw [hd];simp)
  rw [Lib.atoiAll_plain c r (by omega) (by omega)]
  unfold Lib.parseMag
  rw [if_neg (by simp),←hd,hp]
  show (if 9223372036854775808≤n then Lib.NumEnd.range else .ok (n:Int))=_
  rw [if_neg (by omega)]
theorem numOf_itoa {n:Nat} (h:n≤4000):numOf (Lib.itoa n)=n:=by
 unfold numOf
 rw [atoi_itoa (by omega)]
 dsimp only
 rw [if_pos ⟨by omega,by omega,rfl⟩]
theorem itoa_no10 (n:Nat):(10:UInt8) ∉ Lib.itoa n:=by
 rw [Lib.itoa_nonneg]
 intro h
 have:=dec_bytes n 10 h
 simp at this
end Gv
end PartP7
section PartP8
namespace Gv
open Go Gp
theorem upto_snoc (l:List Bs) (x:Bs):∀ m,m≤l.length→Lib.compactUpTo (l++[x]).toArray m=Lib.compactUpTo l.toArray m
 | 0,_=>rfl
 | m+1,h=>by
  have ih:=upto_snoc l x m (by omega)
  have hg:∀ j,j < l.length→(l++[x]).toArray[j]! = l.toArray[j]!:=fun j hj=>by
   rw [getElem!_pos _ _ (by simp;omega),getElem!_pos _ _ (by simpa using hj)]
   simp [List.getElem_append_left hj]
  rw [Lib.compactUpTo_succ,Lib.compactUpTo_succ,ih,hg m (by omega)]
  have hk:Lib.keeps (l++[x]).toArray m=Lib.keeps l.toArray m:=by
   unfold Lib.keeps
   rw [hg m (by omega),hg (m-1) (by omega)]
  rw [hk]
theorem snoc_ind {α:Type} {P:List α→Prop} (h0:P []) (h1:∀ a x,P a→P (a++[x])):∀ l,P l:=fun l=>by
 rw [←List.reverse_reverse l]
 generalize l.reverse=r
 induction r with
 | nil=>exact h0
 | cons x r ih=>rw [List.reverse_cons];exact h1 _ x ih
theorem onceB_snoc (l:List Bs) (x:Bs):onceB (l++[x])=if l.getLast?=some x then onceB l else onceB l++[x]:=by
 unfold onceB Lib.compact
 rw [List.length_append,List.length_singleton,Lib.compactUpTo_succ,upto_snoc l x _ (Nat.le_refl _)]
 have e:(l++[x]).toArray[l.length]! = x:=by
  rw [getElem!_pos _ _ (by simp)]
  simp
 rw [e]
 induction l using snoc_ind with
 | h0=>simp [Lib.keeps_lt_one _ 0 (by omega)]
 | h1 a y _ =>
  have hk:Lib.keeps (a++[y]++[x]).toArray (a++[y]).length=decide (x≠y):=by
   unfold Lib.keeps
   rw [e]
   have e2:(a++[y]++[x]).toArray[(a++[y]).length-1]! = y:=by
    rw [getElem!_pos _ _ (by simp)]
    simp
   rw [e2]
   simp
  rw [hk,List.getLast?_append]
  by_cases h:y=x
  ·subst h;simp
  ·have h2:¬ x=y:=fun e=>h e.symm
   simp [h,h2]
theorem onceB_last (l:List Bs):(onceB l).getLast?=l.getLast?:=by
 induction l using snoc_ind with
 | h0=>rfl
 | h1 a x ih =>
  rw [onceB_snoc]
  split
  ·rename_i h
   rw [ih,h];simp
  ·simp
theorem onceB_left (a b:List Bs):onceB (onceB a++b)=onceB (a++b):=by
 induction b using snoc_ind with
 | h0=>simp [compact_idem]
 | h1 b x ih =>
  rw [←List.append_assoc,←List.append_assoc,onceB_snoc,onceB_snoc,ih]
  have:(onceB a++b).getLast?=(a++b).getLast?:=by
   rw [List.getLast?_append,List.getLast?_append,onceB_last]
  rw [this]
theorem onceB_right (a b:List Bs):onceB (a++onceB b)=onceB (a++b):=by
 induction b using snoc_ind with
 | h0=>rfl
 | h1 b x ih =>
  rw [onceB_snoc]
  split
  ·rename_i h
   rw [ih,←List.append_assoc,onceB_snoc,if_pos]
   rw [List.getLast?_append,h];rfl
  ·rw [←List.append_assoc,←List.append_assoc,onceB_snoc,onceB_snoc,ih]
   have:(a++onceB b).getLast?=(a++b).getLast?:=by
    rw [List.getLast?_append,List.getLast?_append,onceB_last]
   rw [this]
theorem onceB_flat:∀ l:List (List Bs),onceB (l.map onceB).flatten=onceB l.flatten
 | []=>rfl
 | a::r=>by
  rw [List.map_cons,List.flatten_cons,List.flatten_cons,onceB_left,←onceB_right,onceB_flat r,onceB_right]
theorem take_flat (n:Nat):∀ (l:List (List Bs)) (k:Nat),k≤n→(l.map fun a=>a.take n).flatten.take k=l.flatten.take k
 | [],k,_=>rfl
 | a::r,k,hk=>by
  rw [List.map_cons,List.flatten_cons,List.flatten_cons,List.take_append,List.take_append,List.take_take,Nat.min_eq_left hk,List.length_take]
  have ih:=take_flat n r (k-a.length) (by omega)
  by_cases h:a.length≤n
  ·rw [Nat.min_eq_right h,ih]
  ·rw [Nat.min_eq_left (by omega),show k-n=0 by omega,show k-a.length=0 by omega]
   simp
def lastN (n:Nat) (l:List Bs):List Bs:=l.drop (l.length-n)
theorem lastN_rev (n:Nat) (l:List Bs):lastN n l=(l.reverse.take n).reverse:=by
 unfold lastN
 rw [List.take_reverse,List.reverse_reverse]
theorem last_flat (n:Nat) (l:List (List Bs)):lastN n (l.map (lastN n)).flatten=lastN n l.flatten:=by
 rw [lastN_rev,lastN_rev,List.reverse_flatten,List.reverse_flatten]
 congr 1
 have e:((l.map (lastN n)).map List.reverse).reverse=((l.map List.reverse).reverse).map fun a=>a.take n:=by
  rw [List.map_map,List.map_reverse,List.map_map]
  congr 1
  refine List.map_congr_left fun a _=>?_
  show (lastN n a).reverse=_
  rw [lastN_rev,List.reverse_reverse]
  rfl
 rw [e,take_flat n _ n (Nat.le_refl _)]
def joinB (how:Int) (c:Cmd) (p:List (List Bs)):List Bs :=
 if how=2 then mergeB p else if how=3 then [Lib.itoa (sumN p p.length)] else if how=4 then linesC c p.flatten else p.flatten
def checkJoin (how:Int) (c:Cmd):Int:=if how < 1∨4 < how then 4 else if how≠4 then (if c≠zCmd then 4 else 0) else checkCmd c
theorem filterMap_flat (f:Bs→Option Bs):∀ l:List (List Bs),(l.map fun a=>a.filterMap f).flatten=l.flatten.filterMap f
 | []=>rfl
 | a::r=>by rw [List.map_cons,List.flatten_cons,List.flatten_cons,List.filterMap_append,filterMap_flat f r]
theorem sumN_counts:∀ (l:List (List Bs)),(∀ a∈l,a.length≤4000)→∀ i,i≤l.length→sumN (l.map fun a=>[Lib.itoa a.length]) i=((l.take i).flatten.length:Int)
 | l,h,0,_=>by simp [sumN]
 | l,h,i+1,hi=>by
  have ih:=sumN_counts l h i (by omega)
  unfold sumN
  rw [ih,List.take_succ_eq_append_getElem (by omega)]
  have e:(l.map fun a=>[Lib.itoa (a.length:Int)]).getD i []=[Lib.itoa ((l[i]).length:Int)]:=by
   rw [List.getD_eq_getElem?_getD,List.getElem?_map,List.getElem?_eq_getElem (by omega)];rfl
  rw [e]
  show _+numOf _=_
  rw [numOf_itoa (h _ (List.getElem_mem _))]
  simp only [List.flatten_append,List.length_append,List.flatten_cons,List.flatten_nil,List.append_nil]
  omega
theorem kinds {c:Cmd} (h:checkCmd c=0):c.kind=1∨c.kind=2∨c.kind=3∨c.kind=4∨c.kind=5∨c.kind=6∨c.kind=7∨c.kind=8∨c.kind=9∨c.kind=10:=by
 unfold checkCmd at h
 grind
theorem join_whole {c:Cmd} (h:checkCmd c=0) (l:List (List Bs)) (hl:∀ a∈l,a.length≤4000):joinB (howFor c) (if howFor c=4 then c else zCmd) (l.map (linesC c))=linesC c l.flatten:=by
 have each:c.kind < 6→∀ a,linesC c a=a.filterMap (outC c):=fun hk a=>by
  unfold linesC
  rw [if_neg (by omega),if_neg (by omega),if_neg (by omega),if_neg (by omega),if_neg (by omega)]
 have heach:c.kind < 6→howFor c=1→joinB (howFor c) (if howFor c=4 then c else zCmd) (l.map (linesC c))=linesC c l.flatten:=fun hk hh=>by
  unfold joinB
  rw [hh,if_neg (by decide),if_neg (by decide),if_neg (by decide),each hk,←filterMap_flat]
  congr 1
  exact List.map_congr_left fun a _=>each hk a
 have hf:∀ n,howFor c=n→howFor c=n:=fun n h=>h
 rcases kinds h with k|k|k|k|k|k|k|k|k|k
 ·exact heach (by omega) (by unfold howFor;rw [k];rfl)
 ·exact heach (by omega) (by unfold howFor;rw [k];rfl)
 ·exact heach (by omega) (by unfold howFor;rw [k];rfl)
 ·exact heach (by omega) (by unfold howFor;rw [k];rfl)
 ·exact heach (by omega) (by unfold howFor;rw [k];rfl)
 ·have e:∀ a,linesC c a=sortB a:=fun a=>by unfold linesC;rw [if_pos k]
  have e2:howFor c=2:=by unfold howFor;rw [k];rfl
  unfold joinB
  rw [e2,if_pos rfl,e,mergeB_eq]
  ·refine sortB_congr ?_
   have:∀ l:List (List Bs),(l.map (linesC c)).flatten.Perm l.flatten:=fun l=>by
    induction l with
    | nil=>exact .refl _
    | cons a r ih =>
     rw [List.map_cons,List.flatten_cons,List.flatten_cons,e]
     exact (sortB_perm a).append ih
   exact this l
  ·intro x hx
   obtain ⟨a,-,rfl⟩:=List.mem_map.1 hx
   rw [e]
   exact sortB_pairwise a
 ·have e:∀ a,linesC c a=onceB a:=fun a=>by unfold linesC;rw [if_neg (by omega),if_pos k]
  have e2:howFor c=4:=by unfold howFor;rw [k];rfl
  unfold joinB
  rw [e2,if_neg (by decide),if_neg (by decide),if_pos rfl,if_pos rfl,e,e]
  have:l.map (linesC c)=l.map onceB:=List.map_congr_left fun a _=>e a
  rw [this,onceB_flat]
 ·have e:∀ a,linesC c a=[Lib.itoa a.length]:=fun a=>by unfold linesC;rw [if_neg (by omega),if_neg (by omega),if_pos k]
  have e2:howFor c=3:=by unfold howFor;rw [k];rfl
  unfold joinB
  rw [e2,if_neg (by decide),if_pos rfl,e]
  have:l.map (linesC c)=l.map fun a=>[Lib.itoa a.length]:=List.map_congr_left fun a _=>e a
  rw [this,List.length_map,sumN_counts l hl _ (Nat.le_refl _),List.take_length]
 ·have e:∀ a,linesC c a=a.take c.n.toNat:=fun a=>by unfold linesC;rw [if_neg (by omega),if_neg (by omega),if_neg (by omega),if_pos k]
  have e2:howFor c=4:=by unfold howFor;rw [k];rfl
  unfold joinB
  rw [e2,if_neg (by decide),if_neg (by decide),if_pos rfl,if_pos rfl,e,e]
  have:l.map (linesC c)=l.map fun a=>a.take c.n.toNat:=List.map_congr_left fun a _=>e a
  rw [this,take_flat _ _ _ (Nat.le_refl _)]
 ·have e:∀ a,linesC c a=lastN c.n.toNat a:=fun a=>by unfold linesC;rw [if_neg (by omega),if_neg (by omega),if_neg (by omega),if_neg (by omega),if_pos k];rfl
  have e2:howFor c=4:=by unfold howFor;rw [k];rfl
  unfold joinB
  rw [e2,if_neg (by decide),if_neg (by decide),if_pos rfl,if_pos rfl,e,e]
  have:l.map (linesC c)=l.map (lastN c.n.toNat):=List.map_congr_left fun a _=>e a
  rw [this,last_flat]
theorem put_flat (p:List Bs):(put (p.map linesOf).flatten).length≤p.flatten.length+p.length:=by
 induction p with
 | nil=>simp [put]
 | cons b r ih =>
  have h:=put_lines b
  simp only [List.map_cons,List.flatten_cons,put_append,List.length_append,List.length_cons]
  omega
end Gv
end PartP8
section PartP9
namespace Gv
open Go Gp
def notRise (q:Option Bs) (n:Bs):Bool:=match q with|none=>false|some q=>!Op.bytesLess q n
def filesGo:Option Bs→List FileS→Int
 | _,[]=>0
 | q,f::r=>if isWord f.name=false then 1 else if 4000 < f.b.length then 2 else if notRise q f.name=true then 6 else filesGo (some f.name) r
def checkFiles (l:List FileS):Int:=if 12 < l.length then 2 else filesGo none l
def prevN (l:List FileS) (i:Nat):Option Bs:=if i=0 then none else some (l.getD (i-1) ⟨[],[]⟩).name
def notLess (n:Bs) (f:FileS):Bool:=!Op.bytesLess f.name n
def placeI (l:List FileS) (n:Bs):Nat:=l.findIdx (notLess n)
def isAt (l:List FileS) (n:Bs):Bool:=match l[placeI l n]? with|some f=>decide (f.name=n)|none=>false
def fileAt (l:List FileS) (n:Bs):Bs:=match l[placeI l n]? with|some f=>if f.name=n then f.b else []|none=>[]
theorem filesGo_at {l:List FileS} {i:Nat} (h:i < l.length):filesGo (prevN l i) (l.drop i)=if isWord l[i].name=false then 1 else if 4000 < l[i].b.length then 2 else if notRise (prevN l i) l[i].name=true then 6 else filesGo (prevN l (i+1)) (l.drop (i+1)):=by
 rw [List.drop_eq_getElem_cons h,filesGo]
 have e:prevN l (i+1)=some l[i].name:=by
  unfold prevN
  rw [if_neg (by omega),Nat.add_sub_cancel,List.getD_eq_getElem?_getD,List.getElem?_eq_getElem h]
  rfl
 rw [e]
theorem filesGo_ok:∀ {l:List FileS} {q:Option Bs},filesGo q l=0→∀ f∈l,isWord f.name=true∧f.b.length≤4000
 | [],q,_,f,hf=>by cases hf
 | g::r,q,h,f,hf=>by
  rw [filesGo] at h
  split at h
  ·cases h
  ·rename_i h1
   split at h
   ·cases h
   ·rename_i h2
    split at h
    ·cases h
    ·rcases List.mem_cons.1 hf with rfl|hf
     ·exact ⟨by simpa using h1,by omega⟩
     ·exact filesGo_ok h f hf
theorem checkFiles_ok {l:List FileS} (h:checkFiles l=0):l.length≤12∧∀ f∈l,isWord f.name=true∧f.b.length≤4000:=by
 unfold checkFiles at h
 split at h
 ·cases h
 ·exact ⟨by omega,filesGo_ok h⟩
theorem place_at {l:List FileS} {n:Bs} {i:Nat} (h:i < l.length) (h1:notLess n l[i]=true) (h2:∀ j (h:j < l.length),j < i→notLess n l[j]=false):placeI l n=i:=by
 unfold placeI
 rw [List.findIdx_eq h]
 exact ⟨h1,fun j hj=>h2 j (by omega) hj⟩
theorem place_end {l:List FileS} {n:Bs} (h2:∀ j (h:j < l.length),notLess n l[j]=false):placeI l n=l.length:=by
 unfold placeI
 rw [List.findIdx_eq_length]
 intro x hx
 obtain ⟨j,hj,rfl⟩:=List.getElem_of_mem hx
 exact h2 j hj
theorem place_le (l:List FileS) (n:Bs):placeI l n≤l.length:=List.findIdx_le_length
theorem fileAt_len {l:List FileS} (h:∀ f∈l,f.b.length≤4000) (n:Bs):(fileAt l n).length≤4000:=by
 unfold fileAt
 split
 ·rename_i f hf
  split
  ·exact h f (List.mem_of_getElem? hf)
  ·simp
 ·simp
def gatherGo (l:List FileS):Bs→List Bs→Bs × Int
 | out,[]=>(out,0)
 | out,s::r=>if 4000 < out.length+(whole (fileAt l s)).length then ([],2) else gatherGo l (out++whole (fileAt l s)) r
def gatherS (l:List FileS) (f:List Bs):Bs × Int:=if checkFiles l≠0 then ([],checkFiles l) else if 4 < f.length then ([],2) else gatherGo l [] f
theorem gatherGo_len (l:List FileS):∀ (f:List Bs) (out:Bs),out.length≤4000→(gatherGo l out f).1.length≤4000
 | [],out,h=>h
 | s::r,out,h=>by
  rw [gatherGo]
  split
  ·simp
  ·refine gatherGo_len l r _ ?_
   rw [List.length_append];omega
theorem gatherS_len (l:List FileS) (f:List Bs):(gatherS l f).1.length≤4000:=by
 unfold gatherS
 split
 ·simp
 ·split
  ·simp
  ·exact gatherGo_len l f [] (by simp)
def doLines (cs:List Cmd) (s:List Bs):List Bs:=cs.foldl (fun s c=>linesC c s) s
theorem doLines_take {cs:List Cmd} {s:List Bs} {i:Nat} (h:i < cs.length):doLines (cs.take (i+1)) s=linesC cs[i] (doLines (cs.take i) s):=by
 unfold doLines
 rw [List.take_succ_eq_append_getElem h,List.foldl_append]
 rfl
theorem put_el {l:List Bs} {s:Bs} (h:s∈l):s.length≤(put l).length:=by
 induction l with
 | nil=>cases h
 | cons x r ih =>
  rw [put,List.length_append,List.length_cons]
  rcases List.mem_cons.1 h with rfl|h
  ·omega
  ·have:=ih h;omega
end Gv
end PartP9
section PartP21
namespace Gv
open Go Gp
def putGo (F:List FileS) (n b:Bs):List FileS:=if isAt F n=true then F.set (placeI F n) ⟨n,b⟩ else F.take (placeI F n)++⟨n,b⟩::F.drop (placeI F n)
def putS (F:List FileS) (n b:Bs):List FileS × Int :=
 if checkFiles F≠0 then ([],checkFiles F) else if isWord n=false then ([],1) else if 4000 < b.length then ([],2) else if isAt F n=false∧F.length=12 then ([],2) else (putGo F n b,0)
theorem isAt_lt {F:List FileS} {n:Bs} (h:isAt F n=true):∃ h:placeI F n < F.length,F[placeI F n].name=n:=by
 unfold isAt at h
 cases e:F[placeI F n]? with
 | none=>rw [e] at h;cases h
 | some f =>
  rw [e] at h
  obtain ⟨h1,h2⟩:=List.getElem?_eq_some_iff.1 e
  exact ⟨h1,by rw [h2];exact of_decide_eq_true h⟩
end Gv
end PartP21
section PartP10
namespace Gv
open Go Gp
theorem linesC_no {c:Cmd} (h:checkCmd c=0) {l:List Bs} (hl:NoNl l):NoNl (linesC c l):=by
 by_cases h8:c.kind=8
 ·have e:linesC c l=[Lib.itoa l.length]:=by unfold linesC;rw [if_neg (by omega),if_neg (by omega),if_pos h8]
  rw [e]
  intro s hs
  simp at hs
  subst hs
  exact itoa_no10 _
 ·exact linesC_noNl h h8 hl
theorem el_flat {p:List Bs} {b:Bs} (h:b∈p):b.length≤p.flatten.length:=by
 induction p with
 | nil=>cases h
 | cons x r ih =>
  rw [List.flatten_cons,List.length_append]
  rcases List.mem_cons.1 h with rfl|h
  ·omega
  ·have:=ih h;omega
end Gv
end PartP10
section PartP11
namespace Gv
open Go Gp
theorem checkJoin_four {h:Int} {c:Cmd} (hc:checkJoin h c=0):(h=4→checkCmd c=0)∧1≤h∧h≤4:=by
 unfold checkJoin at hc
 split at hc
 ·cases hc
 ·rename_i h1
  refine ⟨fun h4=>?_,by omega,by omega⟩
  rw [if_neg (by omega)] at hc
  exact hc
theorem noNl_flat {l:List (List Bs)} (h:∀ a∈l,NoNl a):NoNl l.flatten:=fun s hs=>by
 obtain ⟨a,ha,hsa⟩:=List.mem_flatten.1 hs
 exact h a ha s hsa
theorem joinB_no {h:Int} {c:Cmd} (hc:checkJoin h c=0) {l:List (List Bs)} (hl:∀ a∈l,NoNl a):NoNl (joinB h c l):=by
 obtain ⟨h4,h1,h2⟩:=checkJoin_four hc
 unfold joinB
 split
 ·exact noNl_perm (mergeB_perm l) (noNl_flat hl)
 ·split
  ·intro s hs
   simp at hs
   subst hs
   have hb:=sumN_bnd l l.length
   obtain ⟨n,hn⟩:∃ n:Nat,sumN l l.length=n:=⟨(sumN l l.length).toNat,by omega⟩
   rw [hn]
   exact itoa_no10 n
  ·split
   ·rename_i e
    exact linesC_no (h4 e) (noNl_flat hl)
   ·exact noNl_flat hl
end Gv
end PartP11
section PartP12
namespace Gv
open Go Gp
variable {P:List (List Bs)} {a:List Nat}
end Gv
end PartP12
section PartP13
namespace Gv
open Go Gp
def outsN (n:Gp.Node):Int:=if n.kind=2 then n.wide else if n.kind=5 then 0 else 1
def errN (n:Gp.Node):Int :=
 if n.kind=1∨n.kind=5 then (if isWord n.file=true then 0 else 1)
 else if n.kind=2 then (if n.wide < 1∨5 < n.wide then 3 else 0)
 else if n.kind=3 then checkCmd n.c
 else checkJoin n.how n.c
def insN (n:Gp.Node):Bool :=
 if n.kind=1∨n.kind=5 then (decide ((n.ins.length:Int)=1) == decide (n.kind=5)) && decide ((n.ins.length:Int) < 2)
 else if n.kind=4 then decide ((1:Int)≤(n.ins.length:Int)) && decide ((n.ins.length:Int)≤5)
 else decide ((n.ins.length:Int)=1)
def wantN (n:Gp.Node):Gp.Node :=
 ⟨n.kind,if n.kind=1∨n.kind=5 then n.file else [],if n.kind=3∨n.kind=4 then n.c else zCmd,if n.kind=4 then n.how else 0,if n.kind=2 then n.wide else 0,n.ins⟩
def checkN (n:Gp.Node):Int :=
 if n.kind < 1∨5 < n.kind then 4 else if errN n≠0 then errN n else if insN n=true∧n=wantN n then 0 else 4
abbrev Ents:=List (List Int × Bool)
def portsGo (N:List Gp.Node) (i:Nat):List Port→Ents→Int × Ents
 | [],u=>(0,u)
 | p::r,u=>if p.node < 0∨(i:Int)≤p.node∨p.out < 0∨outsN (N.getD p.node.toNat ⟨0,[],zCmd,0,0,[]⟩)≤p.out then (5,u) else if mget false u [p.node,p.out]=true then (6,u) else portsGo N i r (mput u [p.node,p.out] true)
def nodesGo (N:List Gp.Node):Nat→List Gp.Node→Int→Ents→Int
 | i,[],o,u=>if N.length=0∨(u.length:Int)≠o then 4 else 0
 | i,n::r,o,u=>if checkN n≠0 then checkN n else if (portsGo N i n.ins u).1≠0 then (portsGo N i n.ins u).1 else if decide (n.kind=5)≠decide ((i:Int)=(N.length:Int)-1) then 4 else nodesGo N (i+1) r (o+outsN n) (portsGo N i n.ins u).2
def checkG (N:List Gp.Node):Int:=if 60 < N.length then 2 else nodesGo N 0 N 0 []
theorem outsN_bnd {n:Gp.Node} (h:checkN n=0):0≤outsN n∧outsN n≤5:=by
 unfold checkN at h
 split at h
 ·cases h
 ·split at h
  ·rename_i h1 h2
   exact absurd h h2
  ·rename_i h1 h2
   unfold outsN
   split
   ·rename_i h3
    simp only [errN,h3] at h2
    simp at h2
    omega
   ·split<;>omega
theorem nodesGo_at {N:List Gp.Node} {i:Nat} (hi:i < N.length) (o:Int) (u:Ents):nodesGo N i (N.drop i) o u=if checkN N[i]≠0 then checkN N[i] else if (portsGo N i N[i].ins u).1≠0 then (portsGo N i N[i].ins u).1 else if decide (N[i].kind=5)≠decide ((i:Int)=(N.length:Int)-1) then 4 else nodesGo N (i+1) (N.drop (i+1)) (o+outsN N[i]) (portsGo N i N[i].ins u).2:=by
 rw [List.drop_eq_getElem_cons hi,nodesGo]
theorem portsGo_at {N:List Gp.Node} {i:Nat} {l:List Port} {j:Nat} (hj:j < l.length) (u:Ents):portsGo N i (l.drop j) u=if l[j].node < 0∨(i:Int)≤l[j].node∨l[j].out < 0∨outsN (N.getD l[j].node.toNat ⟨0,[],zCmd,0,0,[]⟩)≤l[j].out then (5,u) else if mget false u [l[j].node,l[j].out]=true then (6,u) else portsGo N i (l.drop (j+1)) (mput u [l[j].node,l[j].out] true):=by
 rw [List.drop_eq_getElem_cons hj,portsGo]
end Gv
end PartP13
section PartP14
namespace Gv
open Go Gp
theorem linesC_put9 {c:Cmd} (h:checkCmd c=0) (l:List Bs) (hl:l.length≤900000):(put (linesC c l)).length≤(put l).length+30:=by
 unfold linesC
 split
 ·rw [put_perm (sortB_perm l)];omega
 split
 ·have:=put_sub (onceB_sublist l);omega
 split
 ·have:=itoa_len l.length ⟨by omega,by omega⟩
  simp only [put,List.length_append,List.length_cons,List.length_nil]
  omega
 split
 ·have:=put_sub (List.take_sublist c.n.toNat l);omega
 split
 ·have:=put_sub (List.drop_sublist (l.length-c.n.toNat) l);omega
 ·have:=put_filterMap h l;omega
theorem joinB_put9 {h:Int} {c:Cmd} (hc:h=4→checkCmd c=0) (p:List (List Bs)) (hp:p.length≤1000) (hl:p.flatten.length≤900000):(put (joinB h c p)).length≤(put p.flatten).length+30:=by
 unfold joinB
 split
 ·rw [put_perm (mergeB_perm p)];omega
 ·split
  ·have hb:=sumN_bnd p p.length
   have:=itoa_len (sumN p p.length) (by omega)
   simp only [put,List.length_append,List.length_cons,List.length_nil]
   omega
  ·split
   ·rename_i h4
    exact linesC_put9 (hc h4) _ hl
   ·omega
def makeN (n:Gp.Node) (f:List FileS) (ins:List Bs):List Bs :=
 if n.kind=1 then [put (linesOf (fileAt f n.file))]
 else if n.kind=2 then splitLines (linesOf (ins.getD 0 [])) n.wide.toNat
 else if n.kind=3 then [put (linesC n.c (linesOf (ins.getD 0 [])))]
 else if n.kind=4 then [put (joinB n.how n.c (ins.map linesOf))]
 else []
theorem checkN_fine {n:Gp.Node} (h:checkN n=0):1≤n.kind∧n.kind≤5∧errN n=0∧insN n=true:=by
 unfold checkN at h
 split at h
 ·cases h
 ·split at h
  ·rename_i h1 h2
   exact absurd h h2
  ·rename_i h1 h2
   split at h
   ·rename_i h3
    exact ⟨by omega,by omega,Decidable.not_not.1 h2,h3.1⟩
   ·cases h
theorem checkN_shape {n:Gp.Node} (h:checkN n=0):(n.kind=1∧n.ins.length=0)∨(n.kind=2∧n.ins.length=1∧1≤n.wide∧n.wide≤5)∨(n.kind=3∧n.ins.length=1∧checkCmd n.c=0)∨(n.kind=4∧1≤n.ins.length∧n.ins.length≤5∧checkJoin n.how n.c=0)∨(n.kind=5∧n.ins.length=1):=by
 obtain ⟨h1,h2,h3,h4⟩:=checkN_fine h
 have hk:n.kind=1∨n.kind=2∨n.kind=3∨n.kind=4∨n.kind=5:=by omega
 rcases hk with k|k|k|k|k
 ·refine .inl ⟨k,?_⟩
  simp [insN,k] at h4
  omega
 ·refine .inr (.inl ⟨k,?_⟩)
  simp [insN,k] at h4
  simp [errN,k] at h3
  omega
 ·refine .inr (.inr (.inl ⟨k,?_,?_⟩))
  ·simp [insN,k] at h4
   omega
  ·simpa [errN,k] using h3
 ·refine .inr (.inr (.inr (.inl ⟨k,?_,?_,?_⟩)))
  ·simp [insN,k] at h4
   omega
  ·simp [insN,k] at h4
   omega
  ·simpa [errN,k] using h3
 ·refine .inr (.inr (.inr (.inr ⟨k,?_⟩)))
  simp [insN,k] at h4
  omega
theorem parts_take (l:List Bs) (n:Nat) (hn:0 < n):∀ k,k≤n→(((List.range k).map fun k=>put (part l n k)).flatten).length=(put (l.take (k*l.length / n))).length
 | 0,_=>by simp [put]
 | k+1,hk=>by
  rw [List.range_succ,List.map_append,List.flatten_append,List.length_append,parts_take l n hn k (by omega),←part_cat l n k hn,put_append,List.length_append]
  simp
theorem split_len2 (l:List Bs) (n:Nat) (hn:0 < n):(splitLines l n).flatten.length=(put l).length:=by
 unfold splitLines
 rw [parts_take l n hn n (Nat.le_refl _),Nat.mul_div_cancel_left _ hn,List.take_length]
theorem getD_flat (l:List Bs) (i:Nat):(l.getD i []).length≤l.flatten.length:=by
 rw [List.getD_eq_getElem?_getD]
 cases h:l[i]? with
 | none=>simp
 | some b=>exact el_flat (List.mem_of_getElem? h)
theorem makeN_len {n:Gp.Node} {f:List FileS} {ins:List Bs} (h:checkN n=0) (hi:n.ins.length=ins.length) (hf:∀ x∈f,x.b.length≤4000) (hl:ins.flatten.length≤500000):(makeN n f ins).flatten.length≤ins.flatten.length+4040:=by
 have h0:=getD_flat ins 0
 have h1:=put_lines (ins.getD 0 [])
 have h2:=linesOf_len (ins.getD 0 [])
 unfold makeN
 rcases checkN_shape h with ⟨k,e⟩|⟨k,e,w1,w2⟩|⟨k,e,hc⟩|⟨k,e1,e2,hc⟩|⟨k,e⟩
 ·rw [if_pos k]
  have h3:=fileAt_len hf n.file
  have h4:=put_lines (fileAt f n.file)
  simp only [List.flatten_cons,List.flatten_nil,List.append_nil]
  omega
 ·rw [if_neg (by omega),if_pos k,split_len2 _ _ (by omega)]
  omega
 ·rw [if_neg (by omega),if_neg (by omega),if_pos k]
  have h3:=linesC_put9 hc (linesOf (ins.getD 0 [])) (by omega)
  simp only [List.flatten_cons,List.flatten_nil,List.append_nil]
  omega
 ·rw [if_neg (by omega),if_neg (by omega),if_neg (by omega),if_pos k]
  have h3:=put_flat ins
  have h4:=put_len (l:=(ins.map linesOf).flatten) (n:=600000) (by omega)
  have h5:=joinB_put9 (checkJoin_four hc).1 (ins.map linesOf) (by rw [List.length_map];omega) (by omega)
  simp only [List.flatten_cons,List.flatten_nil,List.append_nil]
  omega
 ·rw [if_neg (by omega),if_neg (by omega),if_neg (by omega),if_neg (by omega)]
  simp
theorem makeN_outs {n:Gp.Node} {f:List FileS} {ins:List Bs} (h:checkN n=0):((makeN n f ins).length:Int)=outsN n:=by
 unfold makeN outsN
 rcases checkN_shape h with ⟨k,e⟩|⟨k,e,w1,w2⟩|⟨k,e,hc⟩|⟨k,e1,e2,hc⟩|⟨k,e⟩
 ·rw [if_pos k,if_neg (by omega),if_neg (by omega)];rfl
 ·rw [if_neg (by omega),if_pos k,if_pos k]
  simp [splitLines]
  omega
 ·rw [if_neg (by omega),if_neg (by omega),if_pos k,if_neg (by omega),if_neg (by omega)];rfl
 ·rw [if_neg (by omega),if_neg (by omega),if_neg (by omega),if_pos k,if_neg (by omega),if_neg (by omega)];rfl
 ·rw [if_neg (by omega),if_neg (by omega),if_neg (by omega),if_neg (by omega),if_neg (by omega),if_pos k];rfl
def portAt (out:List (List Bs)) (p:Port):Bs:=(out.getD p.node.toNat []).getD p.out.toNat []
def insOf (out:List (List Bs)) (l:List Port):List Bs:=l.map (portAt out)
def evalGo (f:List FileS):List Gp.Node→List (List Bs)→Bs × Int
 | [],_=>([],4)
 | n::r,out=>if n.kind=5 then ((insOf out n.ins).getD 0 [],0) else evalGo f r (out++[makeN n f (insOf out n.ins)])
def evalG (N:List Gp.Node) (f:List FileS):Bs × Int:=if checkG N≠0 then ([],checkG N) else if checkFiles f≠0 then ([],checkFiles f) else evalGo f N []
def tot (G:List (List Bs)):Nat:=G.flatten.flatten.length
theorem mget_put {α:Type} (z : α):∀ (l:List (List Int × α)) (k:List Int) (a : α) (k':List Int),mget z (mput l k a) k'=if k=k' then a else mget z l k'
 | [],k,a,k'=>by simp [mput,mget]
 | (j,b)::r,k,a,k'=>by
  unfold mput
  by_cases h:j=k
  ·subst h
   simp only [if_true,mget]
   split<;>rfl
  ·simp only [h,if_false,mget,mget_put z r k a k']
   by_cases h1:j=k'
   ·subst h1
    have h2:¬ k=j:=fun e=>h e.symm
    simp [h2]
   ·simp [h1]
theorem set_nil (l:List Bs) {o:Nat} (h:o < l.length):(l.set o []).flatten.length+(l.getD o []).length=l.flatten.length:=by
 have e:l=l.take o++l[o]::l.drop (o+1):=by rw [List.getElem_cons_drop,List.take_append_drop]
 have hg:l.getD o []=l[o]:=by rw [List.getD_eq_getElem?_getD,List.getElem?_eq_getElem h];rfl
 have h2:=congrArg (fun x=>x.flatten.length) e
 simp only [List.flatten_append,List.flatten_cons,List.length_append] at h2
 rw [List.set_eq_take_append_cons_drop,if_pos h,hg]
 simp only [List.flatten_append,List.flatten_cons,List.length_append,List.length_nil]
 omega
theorem tot_set (G:List (List Bs)) {k o:Nat} (h:k < G.length) (ho:o < (G.getD k []).length):tot (G.set k ((G.getD k []).set o []))+((G.getD k []).getD o []).length=tot G:=by
 have hg:G.getD k []=G[k]:=by rw [List.getD_eq_getElem?_getD,List.getElem?_eq_getElem h];rfl
 have e:G=G.take k++G[k]::G.drop (k+1):=by rw [List.getElem_cons_drop,List.take_append_drop]
 have h2:=congrArg (fun x=>x.flatten.flatten.length) e
 simp only [List.flatten_append,List.flatten_cons,List.length_append] at h2
 rw [hg] at ho ⊢
 have h3:=set_nil G[k] ho
 unfold tot
 rw [List.set_eq_take_append_cons_drop,if_pos h]
 simp only [List.flatten_append,List.flatten_cons,List.length_append]
 omega
structure Left (N:List Gp.Node) (out:List (List Bs)) (u:Ents) (G:List (List Bs)):Prop where
 len:G.length=out.length
 outs:∀ k (h:k < out.length),∃ h2:k < N.length,(out[k].length:Int)=outsN N[k]
 each:∀ k,(G.getD k []).length=(out.getD k []).length
 same:∀ (k o:Nat),mget false u [(k:Int),(o:Int)]=false→(G.getD k []).getD o []=(out.getD k []).getD o []
theorem ports_left {N:List Gp.Node} {out:List (List Bs)}:∀ {l:List Port} {u u':Ents} {G:List (List Bs)},Left N out u G→portsGo N out.length l u=(0,u')→∃ G',Left N out u' G'∧tot G'+(insOf out l).flatten.length≤tot G∧∀ p∈l,∃ k o:Nat,p.node=k∧p.out=o∧∃ h:k < out.length,o < out[k].length
 | [],u,u',G,hL,h=>by
  simp only [portsGo,Prod.mk.injEq,true_and] at h
  subst h
  exact ⟨G,hL,by simp [insOf],fun p hp=>by cases hp⟩
 | p::r,u,u',G,hL,h=>by
  rw [portsGo] at h
  split at h
  ·cases h
  ·rename_i h1
   split at h
   ·cases h
   ·rename_i h2
    obtain ⟨k,hk⟩:∃ k:Nat,p.node=k:=⟨p.node.toNat,by omega⟩
    obtain ⟨o,ho⟩:∃ o:Nat,p.out=o:=⟨p.out.toNat,by omega⟩
    have hko:k < out.length:=by omega
    obtain ⟨hkN,hou⟩:=hL.outs k hko
    have hgN:N.getD p.node.toNat ⟨0,[],zCmd,0,0,[]⟩=N[k]:=by
     rw [hk,Int.toNat_natCast,List.getD_eq_getElem?_getD,List.getElem?_eq_getElem hkN];rfl
    rw [hgN] at h1
    have hgo:out.getD k []=out[k]:=by rw [List.getD_eq_getElem?_getD,List.getElem?_eq_getElem hko];rfl
    have hol:o < out[k].length:=by omega
    have hoG:o < (G.getD k []).length:=by rw [hL.each,hgo];exact hol
    have hkG:k < G.length:=by rw [hL.len];exact hko
    have hmf:mget false u [(k:Int),(o:Int)]=false:=by
     rw [hk,ho] at h2
     simpa using h2
    have has:=hL.same k o hmf
    have ht:=tot_set G hkG hoG
    rw [hk,ho] at h
    have hL2:Left N out (mput u [(k:Int),(o:Int)] true) (G.set k ((G.getD k []).set o [])):=by
     refine ⟨by rw [List.length_set];exact hL.len,hL.outs,fun k'=>?_,fun k' o' hm=>?_⟩
     ·rw [←hL.each k',List.getD_eq_getElem?_getD]
      by_cases e:k=k'
      ·subst e
       rw [List.getElem?_set_self hkG]
       simp
      ·rw [List.getElem?_set_ne e,List.getD_eq_getElem?_getD]
     ·rw [mget_put] at hm
      split at hm
      ·cases hm
      ·rename_i hne
       have hn2:¬ (k=k'∧o=o'):=fun e=>hne (by rw [e.1,e.2])
       rw [←hL.same k' o' hm,List.getD_eq_getElem?_getD (l:=G.set _ _)]
       by_cases e:k=k'
       ·subst e
        have hoo:o≠o':=fun e=>hn2 ⟨rfl,e⟩
        rw [List.getElem?_set_self hkG]
        show ((G.getD k []).set o []).getD o' []=(G.getD k []).getD o' []
        rw [List.getD_eq_getElem?_getD,List.getElem?_set_ne hoo,←List.getD_eq_getElem?_getD]
       ·rw [List.getElem?_set_ne e,←List.getD_eq_getElem?_getD]
    obtain ⟨G',hL3,hle,hall⟩:=ports_left hL2 h
    refine ⟨G',hL3,?_,fun q hq=>?_⟩
    ·have e:insOf out (p::r)=((out.getD k []).getD o [])::insOf out r := by
      simp [insOf,portAt,hk,ho]
     rw [e,List.flatten_cons,List.length_append,←has]
     omega
    ·rcases List.mem_cons.1 hq with rfl|hq
     ·exact ⟨k,o,hk,ho,hko,hol⟩
     ·exact hall q hq
theorem getD_app {α:Type} (l r:List α) (d : α) {k:Nat} (h:k < l.length):(l++r).getD k d=l.getD k d:=by
 rw [List.getD_eq_getElem?_getD,List.getElem?_append_left h,←List.getD_eq_getElem?_getD]
theorem getD_app2 {α:Type} (l r:List α) (d : α) {k:Nat} (h:l.length≤k):(l++r).getD k d=r.getD (k-l.length) d:=by
 rw [List.getD_eq_getElem?_getD,List.getElem?_append_right h,←List.getD_eq_getElem?_getD]
theorem left_snoc {N:List Gp.Node} {out:List (List Bs)} {u:Ents} {G:List (List Bs)} (hL:Left N out u G) {x:List Bs} (hN:out.length < N.length) (hx:(x.length:Int)=outsN N[out.length]):Left N (out++[x]) u (G++[x])∧tot (G++[x])=tot G+x.flatten.length:=by
 refine ⟨⟨by rw [List.length_append,List.length_append,hL.len],fun k hk=>?_,fun k=>?_,fun k o hm=>?_⟩,by simp [tot]⟩
 ·rcases Nat.lt_or_ge k out.length with h|h
  ·rw [List.getElem_append_left h]
   exact hL.outs k h
  ·have e:k=out.length := by
    rw [List.length_append,List.length_singleton] at hk
    omega
   subst e
   refine ⟨hN,?_⟩
   rw [List.getElem_append_right (Nat.le_refl _)]
   simpa using hx
 ·rcases Nat.lt_or_ge k out.length with h|h
  ·have h2:k < G.length:=by rw [hL.len];exact h
   rw [getD_app _ _ _ h2,getD_app _ _ _ h,hL.each]
  ·have h2:G.length≤k:=by rw [hL.len];exact h
   rw [getD_app2 _ _ _ h2,getD_app2 _ _ _ h,hL.len]
 ·rcases Nat.lt_or_ge k out.length with h|h
  ·have h2:k < G.length:=by rw [hL.len];exact h
   rw [getD_app _ _ _ h2,getD_app _ _ _ h,hL.same k o hm]
  ·have h2:G.length≤k:=by rw [hL.len];exact h
   rw [getD_app2 _ _ _ h2,getD_app2 _ _ _ h,hL.len]
def Upto (N:List Gp.Node) (out:List (List Bs)):Prop:=∃ o u G,nodesGo N out.length (N.drop out.length) o u=0∧Left N out u G∧tot G≤4100*out.length
end Gv
end PartP14
section PartP15
namespace Gv
open Go Gp
theorem lt_tr {a b c:Bs} (h1:a < b) (h2:b < c):a < c:=List.lt_trans h1 h2
theorem filesGo_iff:∀ {l:List FileS} {q:Option Bs},filesGo q l=0↔(∀ f∈l,isWord f.name=true∧f.b.length≤4000)∧(l.Pairwise fun a b=>a.name < b.name)∧∀ s,q=some s→∀ f∈l,s < f.name
 | [],q=>by simp [filesGo]
 | g::r,q=>by
  have ih:=@filesGo_iff r (some g.name)
  rw [filesGo]
  constructor
  ·intro h
   split at h
   ·cases h
   ·rename_i h1
    split at h
    ·cases h
    ·rename_i h2
     split at h
     ·cases h
     ·rename_i h3
      obtain ⟨i1,i2,i3⟩:=ih.1 h
      have i3:=i3 _ rfl
      have hq:∀ s,q=some s→s < g.name:=fun s hs=>by
       subst hs
       simp only [notRise,less_eq] at h3
       simpa using h3
      refine ⟨fun f hf=>?_,List.pairwise_cons.2 ⟨i3,i2⟩,fun s hs f hf=>?_⟩
      ·rcases List.mem_cons.1 hf with rfl|hf
       ·exact ⟨by simpa using h1,by omega⟩
       ·exact i1 f hf
      ·rcases List.mem_cons.1 hf with rfl|hf
       ·exact hq s hs
       ·exact lt_tr (hq s hs) (i3 f hf)
  ·rintro ⟨j1,j2,j3⟩
   obtain ⟨k1,k2⟩:=j1 g (List.mem_cons_self ..)
   rw [List.pairwise_cons] at j2
   rw [if_neg (by simp [k1]),if_neg (by omega),if_neg ?_]
   ·exact ih.2 ⟨fun f hf=>j1 f (List.mem_cons_of_mem _ hf),j2.2,fun s hs f hf=>by cases hs;exact j2.1 f hf⟩
   ·cases q with
    | none=>simp [notRise]
    | some s =>
     have:=j3 s rfl g (List.mem_cons_self ..)
     simp [notRise,less_eq,this]
end Gv
end PartP15
section PartP16
namespace Gv
open Go Gp
def useAll:List Port→Ents→Ents
 | [],u=>u
 | p::r,u=>useAll r (mput u [p.node,p.out] true)
theorem mput_new {k:List Int}:∀ {u:Ents},(∀ e∈u,e.2=true)→mget false u k=false→mput u k true=u++[(k,true)]
 | [],_,_=>rfl
 | (j,b)::r,h,hm=>by
  have hb:b=true:=h (j,b) (List.mem_cons_self ..)
  unfold mget at hm
  unfold mput
  split
  ·rename_i e
   rw [if_pos e,hb] at hm
   cases hm
  ·rename_i e
   rw [if_neg e] at hm
   rw [mput_new (fun x hx=>h x (List.mem_cons_of_mem _ hx)) hm]
   rfl
def Of (M:List Gp.Node) (p:Port):Prop:=∃ k o:Nat,p=⟨k,o⟩∧∃ h:k < M.length,(o:Int) < outsN M[k]
theorem useAll_ok {M:List Gp.Node}:∀ {l:List Port} {u:Ents}, (∀ p∈l, Of M p∧mget false u [p.node, p.out]=false)→l.Nodup→(∀ e∈u, e.2=true∧∃ a b:Int, e.1=[a, b]∧a < M.length) →
  (∀ N,M <+: N→portsGo N M.length l u=(0,useAll l u))∧(useAll l u).length=u.length+l.length∧(∀ e∈useAll l u,e.2=true∧∃ a b:Int,e.1=[a,b]∧a < M.length)∧∀ a b:Int,(⟨a,b⟩:Port) ∉ l→mget false (useAll l u) [a,b]=mget false u [a,b]
 | [],u,_,_,hu=>⟨fun N _=>rfl,rfl,hu,fun a b _=>rfl⟩
 | p::r,u,hp,hn,hu=>by
  rw [List.nodup_cons] at hn
  obtain ⟨⟨k,o,rfl,hk,ho⟩,hm⟩:=hp p (List.mem_cons_self ..)
  have hput:=mput_new (fun e he=>(hu e he).1) hm
  have hu2:∀ e∈mput u [(k:Int),(o:Int)] true,e.2=true∧∃ a b:Int,e.1=[a,b]∧a < M.length:=fun e he=>by
   rw [hput] at he
   rcases List.mem_append.1 he with he|he
   ·exact hu e he
   ·rw [List.mem_singleton] at he
    subst he
    exact ⟨rfl,k,o,rfl,by omega⟩
  have hp2:∀ q∈r,Of M q∧mget false (mput u [(k:Int),(o:Int)] true) [q.node,q.out]=false:=fun q hq=>by
   obtain ⟨h1,h2⟩:=hp q (List.mem_cons_of_mem _ hq)
   refine ⟨h1,?_⟩
   rw [mget_put,if_neg ?_]
   ·exact h2
   ·intro e
    apply hn.1
    have e1:(k:Int)=q.node:=by simpa using (List.cons.inj e).1
    have e2:(o:Int)=q.out:=by simpa using (List.cons.inj (List.cons.inj e).2).1
    rw [e1,e2]
    exact hq
  obtain ⟨i1,i2,i3,i4⟩:=useAll_ok hp2 hn.2 hu2
  refine ⟨fun N hN=>?_,?_,i3,fun a b hab=>?_⟩
  ·have hg:N.getD k ⟨0, [], zCmd, 0, 0, []⟩=M[k] := by
    obtain ⟨t,rfl⟩:=hN
    rw [getD_app _ _ _ hk,List.getD_eq_getElem?_getD,List.getElem?_eq_getElem hk];rfl
   rw [portsGo,if_neg ?_,if_neg (by simp [hm]),i1 N hN]
   ·rfl
   ·show ¬ ((k:Int) < 0∨(M.length:Int)≤(k:Int)∨(o:Int) < 0∨outsN (N.getD (k:Int).toNat _)≤(o:Int))
    rw [Int.toNat_natCast,hg]
    omega
  ·show (useAll r _).length=_
   rw [i2,hput,List.length_append]
   simp only [List.length_cons,List.length_nil]
   omega
  ·show mget false (useAll r _) [a,b]=_
   rw [i4 a b fun h=>hab (List.mem_cons_of_mem _ h),mget_put,if_neg ?_]
   intro e
   apply hab
   have e1:(k:Int)=a:=by simpa using (List.cons.inj e).1
   have e2:(o:Int)=b:=by simpa using (List.cons.inj (List.cons.inj e).2).1
   rw [←e1,←e2]
   exact List.mem_cons_self ..
structure Good (M:List Gp.Node) (cur:List Port):Prop where
 go:∃ (o:Int) (u:Ents),(∀ N,M <+: N→M.length < N.length→nodesGo N 0 N 0 []=nodesGo N M.length (N.drop M.length) o u)∧(u.length:Int)+cur.length=o∧(∀ e∈u,e.2=true∧∃ a b:Int,e.1=[a,b]∧a < M.length)∧∀ p∈cur,Of M p∧mget false u [p.node,p.out]=false
 nd:cur.Nodup
 no5:∀ n∈M,n.kind≠5
theorem good_0:Good [] []:=⟨⟨0,[],fun N _ _=>rfl,rfl,fun e he=>by simp at he,fun p hp=>by simp at hp⟩,List.nodup_nil,fun n hn=>by simp at hn⟩
theorem Of.more {M:List Gp.Node} {p:Port} (h:Of M p) (n:Gp.Node):Of (M++[n]) p:=by
 obtain ⟨k,o,e,hk,ho⟩:=h
 refine ⟨k,o,e,by rw [List.length_append];omega,?_⟩
 rw [List.getElem_append_left hk]
 exact ho
theorem Good.node {M:List Gp.Node} {rest:List Port} {n:Gp.Node} (h:Good M (n.ins++rest)) (hc:checkN n=0) (hk:n.kind≠5):Good (M++[n]) (rest++ports M.length (outsN n).toNat):=by
 obtain ⟨⟨o,u,h1,h2,h3,h4⟩,hn,h5⟩:=h
 rw [List.nodup_append] at hn
 obtain ⟨hn1,hn2,hn3⟩:=hn
 obtain ⟨j1,j2,j3,j4⟩:=useAll_ok (fun p hp=>h4 p (List.mem_append_left _ hp)) hn1 h3
 have hob:=outsN_bnd hc
 refine ⟨⟨o+outsN n,useAll n.ins u,fun N hN hlt=>?_,?_,fun e he=>?_,fun p hp=>?_⟩,?_,fun x hx=>?_⟩
 ·rw [List.length_append,List.length_singleton] at hlt ⊢
  have hM:M <+: N:=(List.prefix_append M [n]).trans hN
  have hlt2:M.length < N.length:=by omega
  have hNn:N[M.length]=n:=by
   obtain ⟨t,rfl⟩:=hN
   rw [List.getElem_append_left (by simp)]
   simp
  rw [h1 N hM hlt2,nodesGo_at hlt2,hNn,hc,if_neg (by simp),j1 N hM,if_neg (by simp),if_neg ?_]
  rw [Decidable.not_not]
  rw [decide_eq_false hk,decide_eq_false (by omega)]
 ·rw [List.length_append] at h2
  rw [List.length_append,ports_len,j2]
  omega
 ·obtain ⟨e1,a,b,e2,e3⟩:=j3 e he
  refine ⟨e1,a,b,e2,?_⟩
  rw [List.length_append]
  omega
 ·rcases List.mem_append.1 hp with hp|hp
  ·obtain ⟨k1,k2⟩:=h4 p (List.mem_append_right _ hp)
   refine ⟨k1.more n,?_⟩
   rw [j4 p.node p.out ?_]
   ·exact k2
   ·intro hq
    exact hn3 _ hq _ hp rfl
  ·obtain ⟨j,hj,rfl⟩:=List.mem_map.1 hp
   rw [List.mem_range] at hj
   refine ⟨⟨M.length,j,rfl,by rw [List.length_append,List.length_singleton];omega,?_⟩,?_⟩
   ·simp only [List.getElem_append_right (Nat.le_refl _)]
    simp
    omega
   ·show mget false (useAll n.ins u) [(M.length:Int),(j:Int)]=false
    have nokey:∀ (w:Ents),(∀ e∈w,e.2=true∧∃ a b:Int,e.1=[a,b]∧a < M.length)→mget false w [(M.length:Int),(j:Int)]=false:=by
     intro w
     induction w with
     | nil=>intro _;rfl
     | cons e r ih =>
      intro hw
      obtain ⟨ks,v⟩:=e
      obtain ⟨-,a,b,e2,e3⟩:=hw _ (List.mem_cons_self ..)
      unfold mget
      rw [if_neg ?_]
      ·exact ih fun x hx=>hw x (List.mem_cons_of_mem _ hx)
      ·intro e4
       have e2:ks=[a,b]:=e2
       rw [e2] at e4
       have:=(List.cons.inj e4).1
       omega
    exact nokey _ j3
 ·rw [List.nodup_append]
  refine ⟨hn2,?_,fun a ha b hb e=>?_⟩
  ·unfold ports
   exact List.pairwise_map.2 (List.nodup_range.imp fun h e=>h (by have e2:=congrArg Port.out e;simp at e2;omega))
  ·subst e
   obtain ⟨j,hj,e⟩:=List.mem_map.1 hb
   obtain ⟨⟨k,o2,e2,hk2,-⟩,-⟩:=h4 a (List.mem_append_right _ ha)
   rw [e2] at e
   have:=congrArg Port.node e
   simp at this
   omega
 ·rcases List.mem_append.1 hx with hx|hx
  ·exact h5 x hx
  ·rw [List.mem_singleton] at hx
   subst hx;exact hk
theorem Good.sink {M:List Gp.Node} {n:Gp.Node} (h:Good M n.ins) (hc:checkN n=0) (hk:n.kind=5) (hl:M.length < 60):checkG (M++[n])=0:=by
 obtain ⟨⟨o,u,h1,h2,h3,h4⟩,hn,h5⟩:=h
 obtain ⟨j1,j2,j3,j4⟩:=useAll_ok h4 hn h3
 have hlen:(M++[n]).length=M.length+1:=by simp
 unfold checkG
 rw [if_neg (by omega),h1 _ (List.prefix_append M [n]) (by omega),nodesGo_at (by omega)]
 have hNn:(M++[n])[M.length]'(by omega)=n:=by simp
 have hon:outsN n=0:=by unfold outsN;rw [if_neg (by omega),if_pos hk]
 rw [hNn,hc,if_neg (by simp),j1 _ (List.prefix_append M [n]),if_neg (by simp),if_neg ?_]
 ·rw [List.drop_eq_nil_of_le (by omega),nodesGo,if_neg ?_]
  rw [j2,hon,hlen]
  omega
 ·rw [Decidable.not_not,decide_eq_true hk,decide_eq_true (by omega)]
end Gv
end PartP16
section PartP17
namespace Gv
open Go Gp
def outOf (f:List FileS) (M:List Gp.Node):List (List Bs):=M.foldl (fun out n=>out++[makeN n f (insOf out n.ins)]) []
theorem outOf_snoc (f:List FileS) (M:List Gp.Node) (n:Gp.Node):outOf f (M++[n])=outOf f M++[makeN n f (insOf (outOf f M) n.ins)]:=by
 unfold outOf
 rw [List.foldl_append]
 rfl
theorem outOf_len (f:List FileS) (M:List Gp.Node):(outOf f M).length=M.length:=by
 suffices h:∀ (M:List Gp.Node) (out:List (List Bs)),(M.foldl (fun out n=>out++[makeN n f (insOf out n.ins)]) out).length=out.length+M.length by simpa [outOf] using h M []
 intro M
 induction M with
 | nil=>intro out;rfl
 | cons n r ih =>
  intro out
  rw [List.foldl_cons,ih,List.length_append]
  simp only [List.length_cons,List.length_nil]
  omega
theorem evalGo_pre (f:List FileS):∀ (M rest:List Gp.Node) (out:List (List Bs)),(∀ n∈M,n.kind≠5)→evalGo f (M++rest) out=evalGo f rest (M.foldl (fun out n=>out++[makeN n f (insOf out n.ins)]) out)
 | [],rest,out,_=>rfl
 | n::r,rest,out,h=>by
  rw [List.cons_append,evalGo,if_neg (h n (List.mem_cons_self ..)),evalGo_pre f r rest _ fun x hx=>h x (List.mem_cons_of_mem _ hx)]
  rfl
structure St (f:List FileS) (M:List Gp.Node) (cur:List Port) (vals:List Bs):Prop where
 good:Good M cur
 val:insOf (outOf f M) cur=vals
theorem St.len {f:List FileS} {M:List Gp.Node} {cur:List Port} {vals:List Bs} (h:St f M cur vals):vals.length=cur.length:=by
 rw [←h.val]
 simp [insOf]
theorem St.node {f:List FileS} {M:List Gp.Node} {n:Gp.Node} {rest:List Port} {vi vr:List Bs} (h:St f M (n.ins++rest) (vi++vr)) (hl:vi.length=n.ins.length) (hc:checkN n=0) (hk:n.kind≠5):St f (M++[n]) (rest++ports M.length (outsN n).toNat) (vr++makeN n f vi):=by
 have hv:=h.val
 unfold insOf at hv
 rw [List.map_append] at hv
 obtain ⟨v1,v2⟩:=List.append_inj hv (by rw [List.length_map];exact hl.symm)
 refine ⟨h.good.node hc hk,?_⟩
 rw [outOf_snoc]
 have e1:insOf (outOf f M) n.ins=vi:=v1
 rw [e1]
 have hx:=makeN_outs (f:=f) (ins:=vi) hc
 obtain ⟨x,hxe⟩:∃ x,makeN n f vi=x:=⟨_,rfl⟩
 rw [hxe] at hx ⊢
 have hxl:(outsN n).toNat=x.length:=by omega
 rw [hxl]
 unfold insOf
 rw [List.map_append]
 congr 1
 ·rw [←v2]
  refine List.map_congr_left fun p hp=>?_
  obtain ⟨o,u,-,-,-,h4⟩:=h.good.go
  obtain ⟨⟨k,o2,rfl,hk2,-⟩,-⟩:=h4 p (List.mem_append_right _ hp)
  have hk3:k < (outOf f M).length:=by rw [outOf_len];exact hk2
  unfold portAt
  show ((outOf f M++[x]).getD (k:Int).toNat []).getD _ []=((outOf f M).getD (k:Int).toNat []).getD _ []
  rw [Int.toNat_natCast,getD_app _ _ _ hk3]
 ·unfold ports
  rw [List.map_map]
  refine List.ext_getElem (by simp) fun j h1 h2=>?_
  simp only [List.getElem_map,List.getElem_range,Function.comp]
  show ((outOf f M++[x]).getD (M.length:Int).toNat []).getD (j:Int).toNat []=x[j]
  rw [Int.toNat_natCast,Int.toNat_natCast,getD_app2 _ _ _ (by rw [outOf_len];exact Nat.le_refl _),outOf_len,Nat.sub_self]
  show x.getD j []=x[j]
  rw [List.getD_eq_getElem?_getD,List.getElem?_eq_getElem h2]
  rfl
def allL (vals:List Bs):List Bs:=(vals.map linesOf).flatten
def Wh (vals:List Bs):Prop:=∀ v∈vals,v=put (linesOf v)
theorem wh_put {l:List Bs} (h:NoNl l):put l=put (linesOf (put l)):=by rw [linesOf_put h]
theorem allL_no (vals:List Bs):NoNl (allL vals):=noNl_flat fun a ha=>by
 obtain ⟨b,-,rfl⟩:=List.mem_map.1 ha
 exact linesOf_no10 b
theorem one_list {α:Type} {l:List α} (h:l.length=1):∃ x,l=[x]:=by
 match l,h with
 | [x],_=>exact ⟨x,rfl⟩
theorem checkN_src {s:Bs} (h:isWord s=true):checkN (srcN s)=0:=by
 unfold checkN
 simp [srcN,errN,insN,wantN,zCmd,h]
theorem checkN_sink {s:Bs} {p:Port} (h:isWord s=true):checkN (sinkN s [p])=0:=by
 unfold checkN
 simp [sinkN,errN,insN,wantN,zCmd,h]
theorem checkN_split {w:Int} {p:Port} (h:1≤w∧w≤5):checkN (splitN w [p])=0:=by
 have h1:¬ (w < 1∨5 < w):=by omega
 unfold checkN
 simp [splitN,errN,insN,wantN,zCmd,h1]
theorem checkN_work {c:Cmd} {p:Port} (h:checkCmd c=0):checkN (workN c [p])=0:=by
 unfold checkN
 simp [workN,errN,insN,wantN,zCmd,h]
theorem checkN_join {how:Int} {c:Cmd} {ins:List Port} (h:checkJoin how c=0) (hl:1≤ins.length∧ins.length≤5):checkN (joinN how c ins)=0:=by
 have h1:(1:Int)≤(ins.length:Int):=by omega
 have h2:(ins.length:Int)≤5:=by omega
 unfold checkN
 simp [joinN,errN,insN,wantN,zCmd,h]
 exact ⟨decide_eq_true h1,decide_eq_true h2⟩
theorem st_src {f:List FileS} {d:Desk} {vals:List Bs} (h:St f d.nodes d.cur vals) {s:Bs} (hs:isWord s=true):St f (d.src s).nodes (d.src s).cur (vals++[put (linesOf (fileAt f s))]):=by
 have:=St.node (n:=srcN s) (rest:=d.cur) (vi:=[]) (vr:=vals) (f:=f) (M:=d.nodes) h rfl (checkN_src hs) (by show (1:Int)≠5;decide)
 exact this
theorem st_join {f:List FileS} {M:List Gp.Node} {cur:List Port} {vals:List Bs} (h:St f M cur vals) {how:Int} {c:Cmd} (hj:checkJoin how c=0) (hl:1≤cur.length∧cur.length≤5):St f (M++[joinN how c cur]) [⟨M.length,0⟩] [put (joinB how c (vals.map linesOf))]:=by
 have h2:St f M ((joinN how c cur).ins++[]) (vals++[]):=by
  rw [List.append_nil,List.append_nil]
  exact h
 exact St.node h2 h.len (checkN_join hj hl) (by show (4:Int)≠5;decide)
theorem st_behind {f:List FileS} {d:Desk} {vals:List Bs} (h:St f d.nodes d.cur vals) (hw:Wh vals) (hl:1≤d.cur.length∧d.cur.length≤5):∃ v',St f d.behind.nodes d.behind.cur v'∧Wh v'∧allL v'=allL vals∧d.behind.cur.length=1:=by
 unfold Desk.behind
 split
 ·rename_i h1
  refine ⟨_,st_join h (how:=1) (c:=zCmd) (by decide) hl,fun v hv=>?_,?_,rfl⟩
  ·rw [List.mem_singleton] at hv
   subst hv
   exact wh_put (allL_no vals)
  ·show [linesOf (put (allL vals))].flatten=_
   rw [linesOf_put (allL_no vals)]
   simp
 ·exact ⟨vals,h,hw,rfl,by omega⟩
theorem outs_cons (i:Nat) (n:Nat):outs (i:Int) (n+1)=⟨i,0⟩::outs ((i+1:Nat):Int) n:=by
 unfold outs
 rw [List.range_succ_eq_map,List.map_cons,List.map_map]
 congr 1
 simp
 intro a ha
 omega
theorem st_work {f:List FileS} {c:Cmd} (hc:checkCmd c=0):∀ (l dn:List Port) (vl vd:List Bs) (M:List Gp.Node),St f M (l++dn) (vl++vd)→vl.length=l.length→St f (M++l.map fun p=>workN c [p]) (dn++outs M.length l.length) (vd++vl.map fun v=>put (linesC c (linesOf v)))
 | [],dn,[],vd,M,h,_=>by simpa [outs] using h
 | [],dn,x::r,vd,M,h,hl=>by simp at hl
 | p::r,dn,[],vd,M,h,hl=>by simp at hl
 | p::r,dn,v::vr,vd,M,h,hl=>by
  have h1:=St.node (n:=workN c [p]) (rest:=r++dn) (vi:=[v]) (vr:=vr++vd) h rfl (checkN_work hc) (by show (3:Int)≠5;decide)
  have h2:St f (M++[workN c [p]]) (r++(dn++[⟨M.length,0⟩])) (vr++(vd++[put (linesC c (linesOf v))])):=by
   rw [←List.append_assoc,←List.append_assoc]
   exact h1
  have h3:=st_work hc r _ vr _ _ h2 (by simpa using hl)
  rw [List.length_append,List.length_singleton] at h3
  rw [List.map_cons,List.map_cons,List.length_cons,outs_cons]
  simpa [List.append_assoc] using h3
end Gv
end PartP17
section PartP18
namespace Gv
open Go Gp
theorem linesC_len4 (c:Cmd) {l:List Bs} (h:l.length≤4000):(linesC c l).length≤4000:=by
 unfold linesC
 split
 ·rw [(sortB_perm l).length_eq];exact h
 split
 ·exact Nat.le_trans (onceB_sublist l).length_le h
 split
 ·simp
 split
 ·rw [List.length_take];omega
 split
 ·rw [List.length_drop];omega
 ·exact Nat.le_trans (List.length_filterMap_le _ _) h
theorem parts_flat (l:List Bs) (n:Nat) (hn:0 < n):∀ k,((List.range k).map fun k=>part l n k).flatten=l.take (k*l.length / n)
 | 0=>by simp
 | k+1=>by
  rw [List.range_succ,List.map_append,List.flatten_append,parts_flat l n hn k,←part_cat l n k hn]
  simp
theorem split_all {l:List Bs} (h:NoNl l) {n:Nat} (hn:0 < n):allL (splitLines l n)=l∧Wh (splitLines l n):=by
 constructor
 ·unfold allL splitLines
  rw [List.map_map]
  have e:(List.range n).map (linesOf ∘ fun k=>put (part l n k))=(List.range n).map fun k=>part l n k:=List.map_congr_left fun k _=>linesOf_put (part_no h n k)
  rw [e,parts_flat l n hn n,Nat.mul_div_cancel_left _ hn,List.take_length]
 ·intro v hv
  obtain ⟨k,-,rfl⟩:=List.mem_map.1 hv
  exact wh_put (part_no h n k)
theorem st_wide {f:List FileS} {d:Desk} {vals:List Bs} {w:Int} (h:St f d.nodes d.cur vals) (hw:Wh vals) (h5:1≤w∧w≤5) (hl:d.cur.length=1∨(d.cur.length:Int)=w):∃ v',St f (d.wide w).nodes (d.wide w).cur v'∧Wh v'∧allL v'=allL vals∧((d.wide w).cur.length:Int)=w:=by
 unfold Desk.wide
 split
 ·exact ⟨vals,h,hw,rfl,by omega⟩
 ·rename_i h1
  obtain ⟨p,hp⟩:=one_list (l:=d.cur) (by omega)
  obtain ⟨v,hv⟩:=one_list (l:=vals) (by rw [h.len,hp];rfl)
  rw [hp,hv] at h
  have h2:=St.node (n:=splitN w [p]) (rest:=[]) (vi:=[v]) (vr:=[]) h rfl (checkN_split h5) (by show (2:Int)≠5;decide)
  have e:makeN (splitN w [p]) f [v]=splitLines (linesOf v) w.toNat:=rfl
  have e2:outsN (splitN w [p])=w:=rfl
  rw [e,e2,List.nil_append,List.nil_append] at h2
  have hs:=split_all (linesOf_no10 v) (n:=w.toNat) (by omega)
  rw [hp,hv]
  refine ⟨_,h2,hs.2,?_,?_⟩
  ·rw [hs.1]
   simp [allL]
  ·show ((ports _ _).length:Int)=w
   rw [ports_len]
   omega
theorem each_map {c:Cmd} (hk:each c=true) (l:List (List Bs)):(l.map (linesC c)).flatten=linesC c l.flatten:=by
 have hk:1≤c.kind∧c.kind≤5:=by simpa [Gp.each] using hk
 have e:∀ a,linesC c a=a.filterMap (outC c):=fun a=>by
  unfold linesC
  rw [if_neg (by omega),if_neg (by omega),if_neg (by omega),if_neg (by omega),if_neg (by omega)]
 rw [e,←filterMap_flat]
 congr 1
 exact List.map_congr_left fun a _=>e a
theorem howFor_ok {c:Cmd} (hc:checkCmd c=0):checkJoin (howFor c) (if howFor c=4 then c else zCmd)=0:=by
 have hz:checkCmd c=0:=hc
 unfold checkJoin
 rcases kinds hc with k|k|k|k|k|k|k|k|k|k<;>simp [howFor,k,hz]
theorem work_all {c:Cmd} (hc:checkCmd c=0) (vals:List Bs):(vals.map fun v=>put (linesC c (linesOf v))).map linesOf=(vals.map linesOf).map (linesC c)∧Wh (vals.map fun v=>put (linesC c (linesOf v))):=by
 constructor
 ·rw [List.map_map,List.map_map]
  exact List.map_congr_left fun v _=>linesOf_put (linesC_no hc (linesOf_no10 v))
 ·intro v hv
  obtain ⟨x,-,rfl⟩:=List.mem_map.1 hv
  exact wh_put (linesC_no hc (linesOf_no10 x))
theorem flat_el {l:List (List Bs)} {a:List Bs} (h:a∈l):a.length≤l.flatten.length:=by
 obtain ⟨s,t,rfl⟩:=List.append_of_mem h
 simp
 omega
theorem st_step {f:List FileS} {d:Desk} {vals:List Bs} {w:Int} {c:Cmd} (h:St f d.nodes d.cur vals) (hw:Wh vals) (h5:1≤w∧w≤5) (hl:d.cur.length=1∨(d.cur.length:Int)=w) (hc:checkCmd c=0):∃ v',St f (d.step w c).nodes (d.step w c).cur v'∧Wh v'∧((allL vals).length≤4000→allL v'=linesC c (allL vals))∧((d.step w c).cur.length=1∨((d.step w c).cur.length:Int)=w):=by
 obtain ⟨vw,s1,s2,s3,s4⟩:=st_wide h hw h5 hl
 have s5:=St.len s1
 have h2:St f ((d.wide w).work c).nodes ((d.wide w).work c).cur (vw.map fun v=>put (linesC c (linesOf v))):=by
  have:=st_work hc (d.wide w).cur [] vw [] (d.wide w).nodes (by rw [List.append_nil,List.append_nil];exact s1) s5
  simpa [Desk.work] using this
 obtain ⟨w1,w2⟩:=work_all hc vw
 have hcl:(((d.wide w).work c).cur.length:Int)=w:=by
  show ((outs _ _).length:Int)=w
  rw [outs_len]
  exact s4
 unfold Desk.step
 split
 ·rename_i he
  refine ⟨_,h2,w2,fun _=>?_,.inr hcl⟩
  show (List.map linesOf (vw.map fun v=>put (linesC c (linesOf v)))).flatten=linesC c (allL vals)
  rw [w1,←s3]
  rcases he with he|he
  ·exact each_map he _
  ·obtain ⟨v,hv⟩:=one_list (l:=vw) (by omega)
   rw [hv]
   simp [allL]
 ·rename_i he
  have hj:=st_join h2 (howFor_ok hc) (by omega)
  refine ⟨_,hj,fun v hv=>?_,fun h4=>?_,.inl rfl⟩
  ·rw [List.mem_singleton] at hv
   subst hv
   refine wh_put (joinB_no (howFor_ok hc) fun a ha=>?_)
   obtain ⟨b,-,rfl⟩:=List.mem_map.1 ha
   exact linesOf_no10 b
  ·have hno:NoNl (joinB (howFor c) (if howFor c=4 then c else zCmd) ((vw.map fun v => put (linesC c (linesOf v))).map linesOf)) := joinB_no (howFor_ok hc) fun a ha => by
    obtain ⟨b,-,rfl⟩:=List.mem_map.1 ha
    exact linesOf_no10 b
   show [linesOf (put _)].flatten=_
   rw [linesOf_put hno,w1,join_whole hc (vw.map linesOf) fun a ha=>?_]
   ·rw [←s3]
    simp [allL]
   ·have:=flat_el ha
    rw [←s3] at h4
    unfold allL at h4
    omega
theorem st_steps {f:List FileS} {w:Int} (h5:1≤w∧w≤5):∀ (cs:List Cmd) (d:Desk) (vals:List Bs),(∀ c∈cs,checkCmd c=0)→St f d.nodes d.cur vals→Wh vals→(d.cur.length=1∨(d.cur.length:Int)=w)→∃ v',St f (steps w d cs).nodes (steps w d cs).cur v'∧Wh v'∧((allL vals).length≤4000→allL v'=doLines cs (allL vals))∧((steps w d cs).cur.length=1∨((steps w d cs).cur.length:Int)=w)
 | [],d,vals,_,h,hw,hl=>⟨vals,h,hw,fun _=>rfl,hl⟩
 | c::r,d,vals,hc,h,hw,hl=>by
  obtain ⟨v1,a1,a2,a3,a4⟩:=st_step h hw h5 hl (hc c (List.mem_cons_self ..))
  obtain ⟨v2,b1,b2,b3,b4⟩:=st_steps h5 r _ v1 (fun x hx=>hc x (List.mem_cons_of_mem _ hx)) a1 a2 a4
  refine ⟨v2,b1,b2,fun h4=>?_,b4⟩
  have e:=a3 h4
  rw [b3 (by rw [e];exact linesC_len4 c h4),e]
  rfl
theorem st_srcs {f:List FileS}:∀ (l:List Bs) (d:Desk) (vals:List Bs),(∀ s∈l,isWord s=true)→St f d.nodes d.cur vals→Wh vals→∃ v',St f (l.foldl Desk.src d).nodes (l.foldl Desk.src d).cur v'∧Wh v'∧allL v'=allL vals++(l.map fun s=>linesOf (fileAt f s)).flatten∧(l.foldl Desk.src d).cur.length=d.cur.length+l.length
 | [],d,vals,_,h,hw=>⟨vals,h,hw,by simp,by simp⟩
 | s::r,d,vals,hs,h,hw=>by
  have h1:=st_src h (hs s (List.mem_cons_self ..))
  have hw1:Wh (vals++[put (linesOf (fileAt f s))]):=fun v hv=>by
   rcases List.mem_append.1 hv with hv|hv
   ·exact hw v hv
   ·rw [List.mem_singleton] at hv
    subst hv
    exact wh_put (linesOf_no10 _)
  obtain ⟨v2,b1,b2,b3,b4⟩:=st_srcs r _ _ (fun x hx=>hs x (List.mem_cons_of_mem _ hx)) h1 hw1
  refine ⟨v2,b1,b2,?_,?_⟩
  ·rw [b3]
   simp [allL,linesOf_put (linesOf_no10 (fileAt f s))]
  ·rw [List.foldl_cons,b4]
   simp [Desk.src]
   omega
theorem gatherGo_ok {f:List FileS}:∀ (l:List Bs) (a:List Bs) {x:Bs},gatherGo f (put a) l=(x,0)→x=put (a++(l.map fun s=>linesOf (fileAt f s)).flatten)
 | [],a,x,h=>by
  simp only [gatherGo,Prod.mk.injEq,and_true] at h
  rw [←h]
  simp
 | s::r,a,x,h=>by
  rw [gatherGo] at h
  split at h
  ·cases h
  ·have e:put a++whole (fileAt f s)=put (a++linesOf (fileAt f s)):=by rw [put_append];rfl
   rw [e] at h
   rw [gatherGo_ok r _ h]
   simp
theorem plan_makes {l:LineS} {w:Int} (hc:checkLine l=0) (h5:1≤w∧w≤5) (f:List FileS):checkG (planNodes l w)=0∧∃ v,evalGo f (planNodes l w) []=(v,0)∧((l.frm.map fun s=>linesOf (fileAt f s)).flatten.length≤4000→v=put (doLines l.cmds (l.frm.map fun s=>linesOf (fileAt f s)).flatten)):=by
 obtain ⟨hf,hw,hto,hcm⟩:(1≤l.frm.length∧l.frm.length≤4∧l.cmds.length≤6)∧(∀ s∈l.frm,isWord s=true)∧isWord l.to=true∧∀ c∈l.cmds,checkCmd c=0:=by
  unfold checkLine at hc
  split at hc
  ·cases hc
  ·rename_i h1
   split at hc
   ·cases hc
   ·rename_i h2
    have h2:(l.frm++[l.to]).all isWord=true:=by simpa using h2
    rw [List.all_eq_true] at h2
    exact ⟨by omega,fun s hs=>h2 s (List.mem_append_left _ hs),h2 _ (by simp),firstBad_at hc⟩
 have s0:St f (⟨[],[]⟩:Desk).nodes (⟨[],[]⟩:Desk).cur []:=⟨good_0,rfl⟩
 obtain ⟨v1,a1,a2,a3,a4⟩:=st_srcs l.frm ⟨[],[]⟩ [] hw s0 (fun v hv=>by simp at hv)
 have a4:(srcs l.frm).cur.length=l.frm.length:=by
  have:=a4
  simpa [srcs] using this
 obtain ⟨v2,b1,b2,b3,b4⟩:=st_behind (d:=srcs l.frm) a1 a2 (by omega)
 obtain ⟨v3,c1,c2,c3,c4⟩:=st_steps h5 l.cmds _ v2 hcm b1 b2 (.inl b4)
 obtain ⟨v4,d1,d2,d3,d4⟩:=st_behind c1 c2 (by omega)
 have hD:=(steps_ok (l:=l) ⟨hf.1,hf.2.1⟩ h5 l.cmds.length (Nat.le_refl _)).len
 rw [List.take_length] at hD
 have hlen:(planDesk l w).nodes.length < 60:=by
  have hb:∀ d:Desk,d.nodes.length≤47→d.behind.nodes.length < 60:=fun d hd=>by
   unfold Desk.behind
   split
   ·show (d.nodes++[_]).length < 60
    rw [List.length_append,List.length_singleton];omega
   ·omega
  exact hb _ (by omega)
 obtain ⟨p,hp⟩:=one_list d4
 obtain ⟨v,hv⟩:=one_list (l:=v4) (by rw [d1.len];exact d4)
 rw [hv] at d1 d2 d3
 have hg:=d1.good
 have hck:checkN (sinkN l.to (planDesk l w).cur)=0:=by
  show checkN (sinkN l.to ((steps w (srcs l.frm).behind l.cmds).behind).cur)=0
  rw [hp]
  exact checkN_sink hto
 refine ⟨Good.sink (n:=sinkN l.to (planDesk l w).cur) hg hck rfl hlen,v,?_,fun h4=>?_⟩
 ·unfold planNodes
  have hno:∀ n∈(planDesk l w).nodes,n.kind≠5:=hg.no5
  rw [evalGo_pre f _ _ _ hno]
  show evalGo f [_] (outOf f (planDesk l w).nodes)=_
  rw [evalGo,if_pos (show (sinkN l.to (planDesk l w).cur).kind=5 from rfl)]
  show ((insOf (outOf f (planDesk l w).nodes) (planDesk l w).cur).getD 0 [],_)=_
  have e:insOf (outOf f (planDesk l w).nodes) (planDesk l w).cur=[v]:=d1.val
  rw [e]
  rfl
 ·have e1:allL v1=(l.frm.map fun s=>linesOf (fileAt f s)).flatten:=by rw [a3];simp [allL]
  have e2:allL [v]=linesOf v:=by simp [allL]
  have e3:=c3 (by rw [b3,e1];exact h4)
  rw [d2 v (List.mem_singleton.2 rfl),←e2,d3,e3,b3,e1]
end Gv
end PartP18
section PartP19
namespace Gv
open Go Gp
def dN:Gp.Node:=⟨0,[],zCmd,0,0,[]⟩
def keyP (p:Port):List Int:=[p.node,p.out]
def allK (N:List Gp.Node):Nat→List (List Int)
 | 0=>[]
 | k+1=>allK N k++(List.range (outsN (N.getD k dN)).toNat).map fun (o:Nat)=>[(k:Int),(o:Int)]
theorem mem_allK {N:List Gp.Node} {x:List Int}:∀ {i:Nat},x∈allK N i↔∃ k o:Nat,x=[(k:Int),(o:Int)]∧k < i∧(o:Int) < outsN (N.getD k dN)
 | 0=>by simp [allK]
 | i+1=>by
  rw [allK,List.mem_append,mem_allK]
  constructor
  ·rintro (⟨k,o,h1,h2,h3⟩|h)
   ·exact ⟨k,o,h1,by omega,h3⟩
   ·obtain ⟨o,h1,h2⟩:=List.mem_map.1 h
    rw [List.mem_range] at h1
    exact ⟨i,o,h2.symm,by omega,by omega⟩
  ·rintro ⟨k,o,h1,h2,h3⟩
   rcases Nat.lt_or_ge k i with h|h
   ·exact .inl ⟨k,o,h1,h,h3⟩
   ·have:k=i:=by omega
    subst this
    exact .inr (List.mem_map.2 ⟨o,List.mem_range.2 (by omega),h1.symm⟩)
theorem mget_true {u:Ents} (h:∀ e∈u,e.2=true) (k:List Int):mget false u k=true↔k∈u.map Prod.fst:=by
 induction u with
 | nil=>simp [mget]
 | cons e r ih =>
  obtain ⟨j,b⟩:=e
  have hb:b=true:=h (j,b) (List.mem_cons_self ..)
  have ih:=ih fun x hx=>h x (List.mem_cons_of_mem _ hx)
  unfold mget
  split
  ·rename_i e1
   simp [hb,e1]
  ·rename_i e1
   rw [ih,List.map_cons,List.mem_cons]
   constructor
   ·exact .inr
   ·rintro (h1|h1)
    ·exact absurd h1.symm e1
    ·exact h1
theorem all_of_len {α:Type} [DecidableEq α] {a b:List α} (ha:a.Nodup) (hs:∀ x∈a,x∈b) (hl:a.length=b.length):∀ x∈b,x∈a:=fun x hx=>by
 refine Decidable.byContradiction fun hn=>?_
 have h1:(x::a).Nodup:=List.nodup_cons.2 ⟨hn,ha⟩
 have h2:∀ y∈x::a,y∈b:=fun y hy=>by
  rcases List.mem_cons.1 hy with rfl|hy
  ·exact hx
  ·exact hs y hy
 have:=List.Nodup.length_le_of_subset h1 h2
 rw [List.length_cons] at this
 omega
end Gv
end PartP19
section PartP20
namespace Gv
open Go Gp
end Gv
end PartP20
section PartS1
namespace Gv
open Go Gp
def linesBad:List LineS→Int
 | []=>0
 | x::r=>if checkLine x≠0 then checkLine x else linesBad r
def checkS (l:List LineS):Int:=if 6 < l.length then 2 else linesBad l
end Gv
end PartS1
section PartP22
namespace Gv
open Go Gp
def runGoL (L:List FileS→LineS→Bs × Int):List FileS→List LineS→List FileS × Int
 | F,[]=>(F,0)
 | F,x::r=>if (L F x).2≠0 then ([],(L F x).2) else if (putS F x.to (L F x).1).2≠0 then ([],(putS F x.to (L F x).1).2) else runGoL L (putS F x.to (L F x).1).1 r
def runL (L:List FileS→LineS→Bs × Int) (F:List FileS) (s:List LineS):List FileS × Int:=if checkFiles F≠0 then ([],checkFiles F) else if checkS s≠0 then ([],checkS s) else runGoL L F s
end Gv
end PartP22
section PartP23
namespace Gv
open Go Gp
def Rises (F:List FileS):Prop:=F.Pairwise fun x y=>x.name < y.name
theorem bs_trans {a b c:Bs} (h:a < b) (k:b < c):a < c:=List.lt_trans h k
theorem bs_irrefl (a:Bs):¬ a < a:=List.lt_irrefl a
theorem bs_tri {a b:Bs} (h:¬ a < b) (h2:¬ a=b):b < a:=by
 rcases List.le_total a b with h3|h3
 ·rcases List.le_iff_lt_or_eq.1 h3 with h4|h4
  ·exact absurd h4 h
  ·exact absurd h4 h2
 ·rcases List.le_iff_lt_or_eq.1 h3 with h4|h4
  ·exact h4
  ·exact absurd h4.symm h2
theorem files_iff {F:List FileS}:checkFiles F=0↔F.length≤12∧(∀ f∈F,isWord f.name=true∧f.b.length≤4000)∧Rises F:=by
 unfold checkFiles
 constructor
 ·intro h
  split at h
  ·cases h
  ·rename_i h1
   have:=filesGo_iff.1 h
   exact ⟨by omega,this.1,this.2.1⟩
 ·rintro ⟨h1,h2,h3⟩
  rw [if_neg (by omega)]
  exact filesGo_iff.2 ⟨h2,h3,fun q' e=>by cases e⟩
theorem notLess_iff {n:Bs} {f:FileS}:notLess n f=true↔¬ f.name < n:=by unfold notLess;rw [less_eq];simp
theorem place_cons {f:FileS} {r:List FileS} {n:Bs}:placeI (f::r) n=if f.name < n then placeI r n+1 else 0:=by
 unfold placeI
 rw [List.findIdx_cons]
 by_cases h:f.name < n
 ·have:notLess n f=false := by
   cases e:notLess n f with
   | false=>rfl
   | true=>exact absurd h (notLess_iff.1 e)
  rw [this,if_pos h];rfl
 ·rw [notLess_iff.2 h,if_neg h];rfl
theorem isAt_cons {f:FileS} {r:List FileS} {n:Bs}:isAt (f::r) n=if f.name < n then isAt r n else decide (f.name=n):=by
 unfold isAt
 rw [place_cons]
 by_cases h:f.name < n
 ·rw [if_pos h,if_pos h,List.getElem?_cons_succ]
 ·rw [if_neg h,if_neg h];rfl
theorem put_filter {n b:Bs}:∀ {F:List FileS},Rises F→putGo F n b=(F.filter fun f=>decide (f.name < n))++⟨n,b⟩::F.filter fun f=>decide (n < f.name)
 | [],_=>rfl
 | f::r,h=>by
  have h':=List.pairwise_cons.1 h
  have ih:=put_filter (n:=n) (b:=b) h'.2
  unfold putGo at ih ⊢
  rw [isAt_cons,place_cons]
  by_cases h1:f.name < n
  ·have e1:(f::r).filter (fun f=>decide (f.name < n))=f::r.filter (fun f=>decide (f.name < n)):=by rw [List.filter_cons,decide_eq_true h1,if_pos rfl]
   have e2:(f::r).filter (fun f=>decide (n < f.name))=r.filter (fun f=>decide (n < f.name)):=by rw [List.filter_cons,decide_eq_false (fun h2=>bs_irrefl _ (bs_trans h1 h2)),if_neg (by decide)]
   rw [if_pos h1,if_pos h1,e1,e2,List.cons_append,←ih]
   split<;>simp
  ·rw [if_neg h1,if_neg h1]
   by_cases h2:f.name=n
   ·have e1:(f::r).filter (fun f => decide (f.name < n))=[] := by
     rw [List.filter_eq_nil_iff]
     intro g hg
     rcases List.mem_cons.1 hg with rfl|hg
     ·simpa using h1
     ·have:=h'.1 g hg
      rw [h2] at this
      simpa using fun h3=>bs_irrefl _ (bs_trans this h3)
    have e2:(f::r).filter (fun f=>decide (n < f.name))=r:=by
     rw [List.filter_cons,decide_eq_false (by rw [h2];exact bs_irrefl n),if_neg (by decide),List.filter_eq_self]
     intro g hg
     have:=h'.1 g hg
     rw [h2] at this
     simpa using this
    rw [e1,e2,if_pos (by simpa using h2)]
    rfl
   ·have h3:=bs_tri h1 h2
    have e1:(f::r).filter (fun f=>decide (f.name < n))=[]:=by
     rw [List.filter_eq_nil_iff]
     intro g hg
     rcases List.mem_cons.1 hg with rfl|hg
     ·simpa using h1
     ·have:=bs_trans h3 (h'.1 g hg)
      simpa using fun h4=>bs_irrefl _ (bs_trans this h4)
    have e2:(f::r).filter (fun f=>decide (n < f.name))=f::r:=by
     rw [List.filter_eq_self]
     intro g hg
     rcases List.mem_cons.1 hg with rfl|hg
     ·simpa using h3
     ·simpa using bs_trans h3 (h'.1 g hg)
    rw [e1,e2,if_neg (by simpa using h2)]
    rfl
theorem rises_put {F:List FileS} {n b:Bs} (h:Rises F):Rises (putGo F n b):=by
 rw [put_filter h]
 unfold Rises
 rw [List.pairwise_append]
 refine ⟨List.Pairwise.sublist List.filter_sublist h,List.pairwise_cons.2 ⟨fun g hg=>?_,List.Pairwise.sublist List.filter_sublist h⟩,fun x hx y hy=>?_⟩
 ·simpa using (List.mem_filter.1 hg).2
 ·have h1:x.name < n:=by simpa using (List.mem_filter.1 hx).2
  rcases List.mem_cons.1 hy with rfl|hy
  ·exact h1
  ·exact bs_trans h1 (by simpa using (List.mem_filter.1 hy).2)
def getN (F:List FileS) (n:Bs):Bs:=((F.find? fun f=>decide (f.name=n)).map (·.b)).getD []
theorem fileAt_getN {n:Bs}:∀ {F:List FileS},Rises F→fileAt F n=getN F n
 | [],_=>rfl
 | f::r,h=>by
  have h':=List.pairwise_cons.1 h
  have ih:=fileAt_getN (n:=n) h'.2
  unfold fileAt getN at ih ⊢
  rw [place_cons,List.find?_cons]
  by_cases h1:f.name < n
  ·have h2:¬ f.name=n:=fun e=>bs_irrefl _ (e ▸ h1)
   rw [if_pos h1,List.getElem?_cons_succ,ih,decide_eq_false h2]
  ·rw [if_neg h1]
   by_cases h2:f.name=n
   ·rw [decide_eq_true h2]
    simp [h2]
   ·rw [decide_eq_false h2]
    have h3:=bs_tri h1 h2
    have:r.find? (fun f=>decide (f.name=n))=none:=by
     rw [List.find?_eq_none]
     intro g hg
     have:=bs_trans h3 (h'.1 g hg)
     simpa using fun e:g.name=n=>bs_irrefl _ (e ▸ this)
    simp [h2,this]
theorem putS_ok {F:List FileS} {n b:Bs} {r:List FileS × Int} (hr:putS F n b=r) (h0:r.2=0):checkFiles F=0∧isWord n=true∧b.length≤4000∧r.1=putGo F n b∧checkFiles r.1=0:=by
 unfold putS at hr
 split at hr
 ·rename_i h;subst hr;exact absurd h0 h
 ·rename_i h1
  split at hr
  ·subst hr;cases h0
  ·rename_i h2
   split at hr
   ·subst hr;cases h0
   ·rename_i h3
    split at hr
    ·subst hr;cases h0
    ·rename_i h4
     subst hr
     have h1:=Decidable.not_not.1 h1
     have hw:isWord n=true:=by simpa using h2
     refine ⟨h1,hw,by omega,rfl,?_⟩
     obtain ⟨g1,g2,g3⟩:=files_iff.1 h1
     refine files_iff.2 ⟨?_,?_,rises_put g3⟩
     ·show (putGo F n b).length≤12
      unfold putGo
      split
      ·rw [List.length_set];exact g1
      ·rename_i h5
       have:=place_le F n
       have h6:¬ F.length=12:=fun e=>h4 ⟨by simpa using h5,e⟩
       simp;omega
     ·intro f hf
      have hf:f∈putGo F n b:=hf
      rw [put_filter g3] at hf
      rcases List.mem_append.1 hf with hf|hf
      ·exact g2 f (List.mem_filter.1 hf).1
      ·rcases List.mem_cons.1 hf with rfl|hf
       ·exact ⟨hw,by show b.length≤4000;omega⟩
       ·exact g2 f (List.mem_filter.1 hf).1
end Gv
end PartP23
section PartP25
namespace Gv
open Go Gp
end Gv
end PartP25
section PartFo
namespace Gv
open Go Go.RowKit Gw
variable [Glob]
def rawQ (Q:Loc) (j:Nat):Value:=match Q j with|some (ob,n,c,_)=>.slice (row0 ob) n c|none=>.slice none 0 0
theorem rawQ_at {Q:Loc} {j:Nat} {ob:Option Nat} {n c k:Nat} (h:Q j=some (ob,n,c,k)):rawQ Q j=.slice (row0 ob) n c:=by
 unfold rawQ;rw [h]
section
variable {w0:Start} {w w':World} {m0 R m:Mem} {q:Loc} {rows:Rows} {P:Program}
def RowR (R m:Mem) (Q:Loc) (j k:Nat) (els:List V):Prop:=∃ ob cap,Q j=some (ob,els.length,cap,k)∧els.length≤cap∧cap≤MAXL∧(ob=none→cap=0)∧∀ b,ob=some b→∃ arr T fz,R b=some (.cells arr T fz)∧arr.size=cap*k∧ElsR m k els arr∧noFk k arr.size fz
theorem RowR.up {R R' m m':Mem} {Q Q':Loc} {j j' k:Nat} {els:List V} (h:RowR R m Q j k els) (hq:Q' j'=Q j) (hm:m.Le m') (hR:∀ b n c k,Q j=some (some b,n,c,k)→R' b=R b):RowR R' m' Q' j' k els:=by
 obtain ⟨ob,cap,h1,h2,h3,h4,h5⟩:=h
 refine ⟨ob,cap,hq.trans h1,h2,h3,h4,fun b e=>?_⟩
 obtain ⟨arr,T,fz,h6,h7,h8,h9⟩:=h5 b e
 subst e
 exact ⟨arr,T,fz,by rw [hR _ _ _ _ h1];exact h6,h7,h8.up hm,h9⟩
theorem get5.{u} {α:Type u} {a b c d e x : α} {j:Nat} (h:[a,b,c,d,e][j]?=some x):(j=0∧x=a)∨(j=1∧x=b)∨(j=2∧x=c)∨(j=3∧x=d)∨(j=4∧x=e):=by
 match j,h with
 | 0,h=>simp at h;exact .inl ⟨rfl,h.symm⟩
 | 1,h=>simp at h;exact .inr (.inl ⟨rfl,h.symm⟩)
 | 2,h=>simp at h;exact .inr (.inr (.inl ⟨rfl,h.symm⟩))
 | 3,h=>simp at h;exact .inr (.inr (.inr (.inl ⟨rfl,h.symm⟩)))
 | 4,h=>simp at h;exact .inr (.inr (.inr (.inr ⟨rfl,h.symm⟩)))
 | n+5,h=>simp at h
def loc5 (x0 x1 x2 x3 x4:Option (Option Nat × Nat × Nat × Nat)):Loc:=fun j=>match j with|0=>x0|1=>x1|2=>x2|3=>x3|4=>x4|_=>none
theorem pure_vr {m:Mem} {q q':Loc} {v:V} {u:Value} (h:v.pure=true) (hv:VR m q v u):VR m q' v u:=(hv.free h).up (Mem.Le.refl m) (noLoc_le _)
theorem focus_ok {f:FuncId} {Tf:PSpec} (HT:PrimOK P f Tf) {r0 r1 r2 r3 i:Nat} {args:List V} {ns fs sk a rd ov:V} {pipes els:List V} {Q:Loc} {subs:List (List V)} {got out:List V} {us:List Value} {k:V→Rows→Prop}
  (C:Cf w0 m0 rows R m q w) (hv:VRL m q (.ptr r0 0 0::args) us) (ha:allPure args=true)
  (h0:rows[r0]?=some (.box [ns,fs,.own r1,.own r2,sk])) (hp0:allPure [ns,fs,sk,a,rd,ov]=true)
  (h1:rows[r1]?=some (.row 4 pipes)) (h2:rows[r2]?=some (.row 5 els)) (h3:rows[r3]?=some (.pack Q subs)) (hpe:∀ x∈els,allPure x.cells=true)
  (hi:els[i]?=some (.agg [.raw (rawQ Q (2*i)),a,.raw (rawQ Q (2*i+1)),rd,ov]))
  (hg:subs[2*i]?=some got) (ho:subs[2*i+1]?=some out)
  (hT:Tf (.ptr 0 0 0::args) [.box [ns,fs,.own 1,.own 2,sk],.row 4 pipes,.rowq 5 (els.set i (.agg [.own 3,a,.own 4,rd,ov])),.row 1 got,.row 1 out]
   (fun v rows1=>∃ sk' pipes' got' out' a' rd' ov' ex,allPure [sk',a',rd',ov']=true∧(v.pure=true∨v=.tup []) ∧
    rows1=[.box [ns,fs,.own 1,.own 2,sk'],.row 4 pipes',.rowq 5 (els.set i (.agg [.own 3,a',.own 4,rd',ov'])),.row 1 got',.row 1 out']++ex ∧
    k v ((((rows.set r0 (.box [ns,fs,.own r1,.own r2,sk'])).set r1 (.row 4 pipes')).set r2 (.row 5 (els.set i (.agg [.raw (rawQ Q (2*i)),a',.raw (rawQ Q (2*i+1)),rd',ov'])))).set r3 (.pack Q ((subs.set (2*i) got').set (2*i+1) out'))))) :
  callable P f=true∧Calls P f us.toArray w fun e w'=>∃ u,e=.returned u∧After w0 m0 m q k u w':=by
 have n01:r0≠r1:=fun e=>by subst e;rw [h0] at h1;cases h1
 have n02:r0≠r2:=fun e=>by subst e;rw [h0] at h2;cases h2
 have n03:r0≠r3:=fun e=>by subst e;rw [h0] at h3;cases h3
 have n12:r1≠r2:=fun e=>by subst e;rw [h1] at h2;cases h2
 have n13:r1≠r3:=fun e=>by subst e;rw [h1] at h3;cases h3
 have n23:r2≠r3:=fun e=>by subst e;rw [h2] at h3;cases h3
 have K3:=C.rok.row r3 _ h3
 have Kg:RowR R m Q (2*i) 1 got:=K3.1 _ _ hg
 have Ko:RowR R m Q (2*i+1) 1 out:=K3.1 _ _ ho
 have K1:RowR R m q r1 4 pipes:=C.rok.row r1 _ h1
 have K2:RowR R m q r2 5 els:=C.rok.row r2 _ h2
 obtain ⟨b0,arr0,T0,e0,e0',-,e0s,e0c⟩:=C.rok.row r0 _ h0
 let inX (b:Nat):Prop:=(∃ n c k,q r0=some (some b,n,c,k))∨(∃ n c k,q r1=some (some b,n,c,k))∨(∃ n c k,q r2=some (some b,n,c,k))∨(∃ n c k,Q (2*i)=some (some b,n,c,k))∨(∃ n c k,Q (2*i+1)=some (some b,n,c,k))
 let X0:List Nat:=[q r0,q r1,q r2,Q (2*i),Q (2*i+1)].filterMap fun x=>x.bind (·.1)
 have hX:∀ b,b∈X0↔inX b:=fun b=>by
  have one:∀ x:Option (Option Nat × Nat × Nat × Nat),x.bind (·.1)=some b↔∃ n c k,x=some (some b,n,c,k):=fun x=>by
   constructor
   ·intro h
    obtain ⟨⟨ob,n,c,k⟩,e1,e2⟩:=Option.bind_eq_some_iff.1 h
    dsimp only at e2
    subst e2
    exact ⟨n,c,k,e1⟩
   ·rintro ⟨n,c,k,rfl⟩
    rfl
  simp only [X0,List.mem_filterMap,inX,List.mem_cons,List.not_mem_nil,or_false]
  constructor
  ·rintro ⟨x,(rfl|rfl|rfl|rfl|rfl),h⟩
   ·exact .inl ((one _).1 h)
   ·exact .inr (.inl ((one _).1 h))
   ·exact .inr (.inr (.inl ((one _).1 h)))
   ·exact .inr (.inr (.inr (.inl ((one _).1 h))))
   ·exact .inr (.inr (.inr (.inr ((one _).1 h))))
  ·rintro (h|h|h|h|h)
   ·exact ⟨_,.inl rfl,(one _).2 h⟩
   ·exact ⟨_,.inr (.inl rfl),(one _).2 h⟩
   ·exact ⟨_,.inr (.inr (.inl rfl)),(one _).2 h⟩
   ·exact ⟨_,.inr (.inr (.inr (.inl rfl))),(one _).2 h⟩
   ·exact ⟨_,.inr (.inr (.inr (.inr rfl))),(one _).2 h⟩
 let R0:Mem:=fun b=>if b∈X0 then R b else none
 let q0:Loc:=loc5 (q r0) (q r1) (q r2) (Q (2*i)) (Q (2*i+1))
 have hgl:=(List.getElem?_eq_some_iff.1 hg).1
 have hol:=(List.getElem?_eq_some_iff.1 ho).1
 have hil:=(List.getElem?_eq_some_iff.1 hi).1
 have hocc:∀ b,inX b→Occ q r0 (.box [ns,fs,.own r1,.own r2,sk]) b∨Occ q r1 (.row 4 pipes) b∨Occ q r2 (.row 5 els) b∨Occ q r3 (.pack Q subs) b:=fun b h=>by
  rcases h with h|h|h|⟨n,c,k,h⟩|⟨n,c,k,h⟩
  ·exact .inl h
  ·exact .inr (.inl h)
  ·exact .inr (.inr (.inl h))
  ·exact .inr (.inr (.inr ⟨_,n,c,k,hgl,h⟩))
  ·exact .inr (.inr (.inr ⟨_,n,c,k,hol,h⟩))
 have hRX:∀ b,b∈X0→∃ o,R b=some o:=fun b hb=>by
  rcases hocc b ((hX b).1 hb) with h|h|h|h
  ·exact blk_some (C.rok.row r0 _ h0) rfl h
  ·exact blk_some (C.rok.row r1 _ h1) rfl h
  ·exact blk_some (C.rok.row r2 _ h2) rfl h
  ·exact blk_some (C.rok.row r3 _ h3) rfl h
 have hR0:∀ b,inX b→R0 b=R b:=fun b h=>if_pos ((hX b).2 h)
 have hfree:∀ r y b,rows[r]?=some y→y.mut=true→Occ q r y b→r≠r0→r≠r1→r≠r2→r≠r3→b ∉ X0:=fun r y b hr hy hob g0 g1 g2 g3 hb=>by
  rcases hocc b ((hX b).1 hb) with h|h|h|h
  ·exact g0 (C.rok.apart r r0 _ _ b hr h0 hy rfl hob h)
  ·exact g1 (C.rok.apart r r1 _ _ b hr h1 hy rfl hob h)
  ·exact g2 (C.rok.apart r r2 _ _ b hr h2 hy rfl hob h)
  ·exact g3 (C.rok.apart r r3 _ _ b hr h3 hy rfl hob h)
 have hfreeQ:∀ j b n c k,j < subs.length→Q j=some (some b,n,c,k)→j≠2*i→j≠2*i+1→b ∉ X0:=fun j b n c k hj hQ g0 g1 hb=>by
  have hob:Occ q r3 (.pack Q subs) b:=⟨j,n,c,k,hj,hQ⟩
  rcases (hX b).1 hb with h|h|h|⟨n',c',k',h⟩|⟨n',c',k',h⟩
  ·exact n03 (C.rok.apart r0 r3 _ _ b h0 h3 rfl rfl h hob)
  ·exact n13 (C.rok.apart r1 r3 _ _ b h1 h3 rfl rfl h hob)
  ·exact n23 (C.rok.apart r2 r3 _ _ b h2 h3 rfl rfl h hob)
  ·exact g0 (K3.2 j _ b _ _ _ _ _ _ hj hgl hQ h)
  ·exact g1 (K3.2 j _ b _ _ _ _ _ _ hj hol hQ h)
 have pl:∀ {l:List V},allPure l=true→∀ v∈l,v.pure=true:=fun h=>allPure_ok _ h
 have C0:Cf ⟨w,X0⟩ m [.box [ns,fs,.own 1,.own 2,sk],.row 4 pipes,.rowq 5 (els.set i (.agg [.own 3,a,.own 4,rd,ov])),.row 1 got,.row 1 out] R0 m q0 w:=by
  refine ⟨⟨Bel.refl _ _,fun b o hb=>?_,C.sit.mem,fun b o e _ _=>e,C.sit.glob⟩,⟨fun j x hj=>?_,fun j y hy=>?_,fun j j' y y' b hy hy' hm hm' hb hb'=>?_⟩⟩
  ·simp only [R0] at hb
   split at hb
   ·rename_i hx;exact ⟨.inr hx,(C.sit.own b o hb).2⟩
   ·cases hb
  ·match j,hj with
   | 0,_=>simp
   | 1,_=>simp
   | 2,_=>simp
   | 3,_=>simp
   | 4,_=>simp
   | n+5,hj=>cases hj
  ·rcases get5 hy with ⟨rfl,rfl⟩|⟨rfl,rfl⟩|⟨rfl,rfl⟩|⟨rfl,rfl⟩|⟨rfl,rfl⟩
   ·refine ⟨b0,arr0,T0,e0,(hR0 b0 (.inl ⟨_,_,_,e0⟩)).trans e0',(fun T' h=>by cases h),e0s,fun j v hj=>?_⟩
    have fr:∀ v∈[ns,fs,sk],v.pure=true:=fun v hv=>pl hp0 v (by simp at hv ⊢;rcases hv with h|h|h<;>simp [h])
    rcases get5 hj with ⟨rfl,rfl⟩|⟨rfl,rfl⟩|⟨rfl,rfl⟩|⟨rfl,rfl⟩|⟨rfl,rfl⟩
    ·obtain ⟨u,g1,g2,g3⟩:=e0c 0 _ rfl;exact ⟨u,g1,g2,pure_vr (fr _ (by simp)) g3⟩
    ·obtain ⟨u,g1,g2,g3⟩:=e0c 1 _ rfl;exact ⟨u,g1,g2,pure_vr (fr _ (by simp)) g3⟩
    ·obtain ⟨u,g1,g2,g3⟩:=e0c 2 _ rfl
     refine ⟨u,g1,g2,?_⟩
     cases g3 with|own h=>exact .own (show q0 1=_ from h)
    ·obtain ⟨u,g1,g2,g3⟩:=e0c 3 _ rfl
     refine ⟨u,g1,g2,?_⟩
     cases g3 with|own h=>exact .own (show q0 2=_ from h)
    ·obtain ⟨u,g1,g2,g3⟩:=e0c 4 _ rfl;exact ⟨u,g1,g2,pure_vr (fr _ (by simp)) g3⟩
   ·exact K1.up (Q':=q0) (j':=1) rfl (Mem.Le.refl m) fun b n c k h=>hR0 b (.inr (.inl ⟨_,_,_,h⟩))
   ·obtain ⟨ob,cap,g1,g2,g3,g4,g5⟩:=K2
    refine ⟨ob,cap,by rw [List.length_set];exact g1,by rw [List.length_set];exact g2,g3,g4,fun b hb=>?_⟩
    obtain ⟨arr,T,fz,a1,a2,a3,a4⟩:=g5 b hb
    refine ⟨arr,T,fz,(hR0 b (.inr (.inr (.inl ⟨_,_,_,by rw [g1,hb]⟩)))).trans a1,a2,fun j x hx=>?_,a4⟩
    by_cases ej:i=j
    ·subst ej
     rw [List.getElem?_set_self hil] at hx
     cases hx
     obtain ⟨-,a3'⟩:=a3 i _ hi
     refine ⟨rfl,fun c v hc=>?_⟩
     obtain ⟨og,cg,k1,-⟩:=Kg
     obtain ⟨oo,co,k2,-⟩:=Ko
     rcases get5 hc with ⟨rfl,rfl⟩|⟨rfl,rfl⟩|⟨rfl,rfl⟩|⟨rfl,rfl⟩|⟨rfl,rfl⟩
     ·obtain ⟨u,c1,c2,c3⟩:=a3' 0 _ rfl
      refine ⟨u,c1,c2,?_⟩
      cases c3
      rw [rawQ_at k1]
      exact .own (show q0 3=_ from k1)
     ·obtain ⟨u,c1,c2,c3⟩:=a3' 1 _ rfl;exact ⟨u,c1,c2,c3.up (Mem.Le.refl m) (noLoc_le _)⟩
     ·obtain ⟨u,c1,c2,c3⟩:=a3' 2 _ rfl
      refine ⟨u,c1,c2,?_⟩
      cases c3
      rw [rawQ_at k2]
      exact .own (show q0 4=_ from k2)
     ·obtain ⟨u,c1,c2,c3⟩:=a3' 3 _ rfl;exact ⟨u,c1,c2,c3.up (Mem.Le.refl m) (noLoc_le _)⟩
     ·obtain ⟨u,c1,c2,c3⟩:=a3' 4 _ rfl;exact ⟨u,c1,c2,c3.up (Mem.Le.refl m) (noLoc_le _)⟩
    ·rw [List.getElem?_set_ne ej] at hx
     exact a3.q j x hx
   ·exact Kg.up (Q':=q0) (j':=3) rfl (Mem.Le.refl m) fun b n c k h=>hR0 b (.inr (.inr (.inr (.inl ⟨_,_,_,h⟩))))
   ·exact Ko.up (Q':=q0) (j':=4) rfl (Mem.Le.refl m) fun b n c k h=>hR0 b (.inr (.inr (.inr (.inr ⟨_,_,_,h⟩))))
  ·
   have ofg:∀ {x b},Occ q0 3 (.row 1 x) b→Occ q r3 (.pack Q subs) b:=fun ⟨n,c,k,h⟩=>⟨_,n,c,k,hgl,h⟩
   have ofo:∀ {x b},Occ q0 4 (.row 1 x) b→Occ q r3 (.pack Q subs) b:=fun ⟨n,c,k,h⟩=>⟨_,n,c,k,hol,h⟩
   have A:=C.rok.apart
   have ap:∀ (x y:Nat) z z',rows[x]?=some z→rows[y]?=some z'→z.mut=true→z'.mut=true→Occ q x z b→Occ q y z' b→x≠y→False:=fun x y z z' g1 g2 g3 g4 g5 g6 g7=>g7 (A x y z z' b g1 g2 g3 g4 g5 g6)
   rcases get5 hy with ⟨rfl,rfl⟩|⟨rfl,rfl⟩|⟨rfl,rfl⟩|⟨rfl,rfl⟩|⟨rfl,rfl⟩<;>rcases get5 hy' with ⟨rfl,rfl⟩|⟨rfl,rfl⟩|⟨rfl,rfl⟩|⟨rfl,rfl⟩|⟨rfl,rfl⟩<;>first|rfl|(exfalso;skip)
   ·exact ap r0 r1 _ _ h0 h1 rfl rfl hb hb' n01
   ·exact ap r0 r2 _ _ h0 h2 rfl rfl hb hb' n02
   ·exact ap r0 r3 _ _ h0 h3 rfl rfl hb (ofg hb') n03
   ·exact ap r0 r3 _ _ h0 h3 rfl rfl hb (ofo hb') n03
   ·exact ap r1 r0 _ _ h1 h0 rfl rfl hb hb' n01.symm
   ·exact ap r1 r2 _ _ h1 h2 rfl rfl hb hb' n12
   ·exact ap r1 r3 _ _ h1 h3 rfl rfl hb (ofg hb') n13
   ·exact ap r1 r3 _ _ h1 h3 rfl rfl hb (ofo hb') n13
   ·exact ap r2 r0 _ _ h2 h0 rfl rfl hb hb' n02.symm
   ·exact ap r2 r1 _ _ h2 h1 rfl rfl hb hb' n12.symm
   ·exact ap r2 r3 _ _ h2 h3 rfl rfl hb (ofg hb') n23
   ·exact ap r2 r3 _ _ h2 h3 rfl rfl hb (ofo hb') n23
   ·exact ap r3 r0 _ _ h3 h0 rfl rfl (ofg hb) hb' n03.symm
   ·exact ap r3 r1 _ _ h3 h1 rfl rfl (ofg hb) hb' n13.symm
   ·exact ap r3 r2 _ _ h3 h2 rfl rfl (ofg hb) hb' n23.symm
   ·obtain ⟨n,c,k,hb⟩:=hb
    obtain ⟨n',c',k',hb'⟩:=hb'
    have:=K3.2 _ _ b _ _ _ _ _ _ hgl hol hb hb'
    omega
   ·exact ap r3 r0 _ _ h3 h0 rfl rfl (ofo hb) hb' n03.symm
   ·exact ap r3 r1 _ _ h3 h1 rfl rfl (ofo hb) hb' n13.symm
   ·exact ap r3 r2 _ _ h3 h2 rfl rfl (ofo hb) hb' n23.symm
   ·obtain ⟨n,c,k,hb⟩:=hb
    obtain ⟨n',c',k',hb'⟩:=hb'
    have:=K3.2 _ _ b _ _ _ _ _ _ hol hgl hb hb'
    omega
 have hv0:VRL m q0 (.ptr 0 0 0::args) us:=⟨hv.len,fun j v u hj hu=>by
  cases j with
  | zero =>
   obtain rfl:V.ptr 0 0 0=v:=by simpa using hj
   have:=hv.el 0 _ u rfl hu
   cases this with
   | ptr h=>exact .ptr (show q0 0=_ from h)
  | succ j =>
   have hj':args[j]?=some v:=by simpa using hj
   exact pure_vr (pl ha v (List.mem_of_getElem? hj')) (hv.el (j+1) v u (by simpa using hj') hu)⟩
 obtain ⟨hc,hcalls⟩:=HT ⟨w,X0⟩ m _ _ _ R0 m q0 w us C0 hv0 hT
 refine ⟨hc,hcalls.mono fun e w' ⟨u,he,v,rows1,R1,m1,q1,⟨sk',pipes',got',out',a',rd',ov',ex,hpp,hvp,hrows,hk⟩,C1,hm1,hq1,hvu⟩=>?_⟩
 subst hrows
 have fr:∀ v∈[ns,fs,sk'],v.pure=true:=fun v hv=>by
  simp only [List.mem_cons,List.not_mem_nil,or_false] at hv
  rcases hv with rfl|rfl|rfl
  ·exact pl hp0 _ (by simp)
  ·exact pl hp0 _ (by simp)
  ·exact pl hpp _ (by simp)
 have D0:=C1.rok.row 0 _ rfl
 have D1:RowR R1 m1 q1 1 4 pipes':=C1.rok.row 1 _ rfl
 have D2:=C1.rok.row 2 _ rfl
 have D3:RowR R1 m1 q1 3 1 got':=C1.rok.row 3 _ rfl
 have D4:RowR R1 m1 q1 4 1 out':=C1.rok.row 4 _ rfl
 let R':Mem:=fun b=>if b∈X0 then R1 b else R b
 have hR'x:∀ b,b∈X0→R' b=R1 b:=fun b h=>if_pos h
 have hR'n:∀ b,b ∉ X0→R' b=R b:=fun b h=>if_neg h
 have hold:∀ b o,R b=some o→b ∉ X0→w'.heap[b]?=some o∧m1 b=none:=fun b o hb hx=>by
  obtain ⟨g1,g2,g3⟩:=C.sit.own b o hb
  have hlt:=C.sit.lt hb
  refine ⟨by rw [C1.sit.bel.block b hlt hx];exact g2,?_⟩
  cases hm:m1 b with
  | none=>rfl
  | some o' =>
   have:=C1.sit.low b o' hm hlt hx
   rw [g3] at this
   cases this
 obtain ⟨ob1,cp1,k1,-⟩:=K1
 have Q1:q1 1=q r1:=by rw [k1];exact hq1 1 _ (show q0 1=_ from k1)
 obtain ⟨ob2,cp2,k2,-⟩:=K2
 have Q2:q1 2=q r2:=by rw [k2];exact hq1 2 _ (show q0 2=_ from k2)
 obtain ⟨ob3,cp3,k3,-⟩:=Kg
 have Q3:q1 3=Q (2*i):=by rw [k3];exact hq1 3 _ (show q0 3=_ from k3)
 obtain ⟨ob4,cp4,k4,-⟩:=Ko
 have Q4:q1 4=Q (2*i+1):=by rw [k4];exact hq1 4 _ (show q0 4=_ from k4)
 have Q0:q1 0=q r0:=by rw [e0];exact hq1 0 _ (show q0 0=_ from e0)
 have inx:∀ b,inX b→R' b=R1 b:=fun b h=>hR'x b ((hX b).2 h)
 have l0:=(List.getElem?_eq_some_iff.1 h0).1
 have l1:=(List.getElem?_eq_some_iff.1 h1).1
 have l2:=(List.getElem?_eq_some_iff.1 h2).1
 have l3:=(List.getElem?_eq_some_iff.1 h3).1
 have old:∀ {A B D E:Row} (j:Nat) z,((((rows.set r0 A).set r1 B).set r2 D).set r3 E)[j]?=some z→(j=r0∧z=A)∨(j=r1∧z=B)∨(j=r2∧z=D)∨(j=r3∧z=E)∨(j≠r0∧j≠r1∧j≠r2∧j≠r3∧rows[j]?=some z):=fun {A B D E} j z hz=>by
  by_cases g3:r3=j
  ·subst g3
   rw [List.getElem?_set_self (by simpa using l3)] at hz
   cases hz
   exact .inr (.inr (.inr (.inl ⟨rfl,rfl⟩)))
  rw [List.getElem?_set_ne g3] at hz
  by_cases g2:r2=j
  ·subst g2
   rw [List.getElem?_set_self (by simpa using l2)] at hz
   cases hz
   exact .inr (.inr (.inl ⟨rfl,rfl⟩))
  rw [List.getElem?_set_ne g2] at hz
  by_cases g1:r1=j
  ·subst g1
   rw [List.getElem?_set_self (by simpa using l1)] at hz
   cases hz
   exact .inr (.inl ⟨rfl,rfl⟩)
  rw [List.getElem?_set_ne g1] at hz
  by_cases g0:r0=j
  ·subst g0
   rw [List.getElem?_set_self l0] at hz
   cases hz
   exact .inl ⟨rfl,rfl⟩
  rw [List.getElem?_set_ne g0] at hz
  exact .inr (.inr (.inr (.inr ⟨fun h=>g0 h.symm,fun h=>g1 h.symm,fun h=>g2 h.symm,fun h=>g3 h.symm,hz⟩)))
 refine ⟨u,he,v,_,R',m1,q,hk,⟨⟨?_,?_,C1.sit.mem,?_,C1.sit.glob⟩,⟨?_,?_,?_⟩⟩,hm1,Loc.Le.refl q,?_⟩
 ·refine C.sit.bel.then C1.sit.bel fun b hb=>?_
  obtain ⟨o,ho⟩:=hRX b hb
  exact (C.sit.own b o ho).1
 ·intro b o hb
  by_cases hx:b∈X0
  ·rw [hR'x b hx] at hb
   obtain ⟨-,g2,g3⟩:=C1.sit.own b o hb
   obtain ⟨o',ho'⟩:=hRX b hx
   exact ⟨(C.sit.own b o' ho').1,g2,g3⟩
  ·rw [hR'n b hx] at hb
   obtain ⟨g2,g3⟩:=hold b o hb hx
   exact ⟨(C.sit.own b o hb).1,g2,g3⟩
 ·intro b o hb hlt hx
  have hlt2:b < w.heap.size:=Nat.lt_of_lt_of_le hlt C.sit.bel.size
  have hx0:b ∉ X0:=fun hx0=>by
   obtain ⟨o',ho'⟩:=hRX b hx0
   rcases (C.sit.own b o' ho').1 with g|g
   ·omega
   ·exact hx g
  exact C.sit.low b o (C1.sit.low b o hb hlt2 hx0) hlt hx
 ·intro r x hr
  simp only [List.length_set]
  exact C.rok.fresh r x hr
 ·intro j z hz
  rcases old j z hz with ⟨rfl,rfl⟩|⟨rfl,rfl⟩|⟨rfl,rfl⟩|⟨rfl,rfl⟩|⟨g0,g1,g2,g3,hz⟩
  ·obtain ⟨b,arr,T,x1,x2,-,x3,x4⟩:=D0
   rw [Q0] at x1
   refine ⟨b,arr,T,x1,(inx b (.inl ⟨_,_,_,x1⟩)).trans x2,(fun T' h=>by cases h),x3,fun c v hc=>?_⟩
   rcases get5 hc with ⟨rfl,rfl⟩|⟨rfl,rfl⟩|⟨rfl,rfl⟩|⟨rfl,rfl⟩|⟨rfl,rfl⟩
   ·obtain ⟨u,y1,y2,y3⟩:=x4 0 _ rfl;exact ⟨u,y1,y2,pure_vr (fr _ (by simp)) y3⟩
   ·obtain ⟨u,y1,y2,y3⟩:=x4 1 _ rfl;exact ⟨u,y1,y2,pure_vr (fr _ (by simp)) y3⟩
   ·obtain ⟨u,y1,y2,y3⟩:=x4 2 _ rfl
    refine ⟨u,y1,y2,?_⟩
    cases y3 with|own h=>rw [Q1] at h;exact .own h
   ·obtain ⟨u,y1,y2,y3⟩:=x4 3 _ rfl
    refine ⟨u,y1,y2,?_⟩
    cases y3 with|own h=>rw [Q2] at h;exact .own h
   ·obtain ⟨u,y1,y2,y3⟩:=x4 4 _ rfl;exact ⟨u,y1,y2,pure_vr (fr _ (by simp)) y3⟩
  ·exact D1.up (Q':=q) Q1.symm (Mem.Le.refl m1) fun b n c k h=>inx b (.inr (.inl ⟨n,c,k,by rw [←Q1];exact h⟩))
  ·obtain ⟨ob,cap,x1,x2,x3,x4,x5⟩:=D2
   rw [Q2] at x1
   rw [List.length_set] at x1 x2
   refine ⟨ob,cap,by rw [List.length_set];exact x1,by rw [List.length_set];exact x2,x3,x4,fun b hb=>?_⟩
   obtain ⟨arr,T,fz,y1,y2,y3,y4⟩:=x5 b hb
   refine ⟨arr,T,fz,(inx b (.inr (.inr (.inl ⟨_,_,_,by rw [x1,hb]⟩)))).trans y1,y2,fun j x hx=>?_,y4⟩
   by_cases ej:i=j
   ·subst ej
    rw [List.getElem?_set_self hil] at hx
    cases hx
    obtain ⟨-,y3'⟩:=y3 i _ (by rw [List.getElem?_set_self hil])
    refine ⟨rfl,fun c v hc=>?_⟩
    rcases get5 hc with ⟨rfl,rfl⟩|⟨rfl,rfl⟩|⟨rfl,rfl⟩|⟨rfl,rfl⟩|⟨rfl,rfl⟩
    ·obtain ⟨u,c1,c2,c3⟩:=y3' 0 _ rfl
     refine ⟨u,c1,c2,?_⟩
     cases c3 with
     | own h =>
      rw [Q3] at h
      rw [rawQ_at h]
      exact .raw
    ·obtain ⟨u,c1,c2,c3⟩:=y3' 1 _ rfl;exact ⟨u,c1,c2,c3.free (pl hpp _ (by simp))⟩
    ·obtain ⟨u,c1,c2,c3⟩:=y3' 2 _ rfl
     refine ⟨u,c1,c2,?_⟩
     cases c3 with
     | own h =>
      rw [Q4] at h
      rw [rawQ_at h]
      exact .raw
    ·obtain ⟨u,c1,c2,c3⟩:=y3' 3 _ rfl;exact ⟨u,c1,c2,c3.free (pl hpp _ (by simp))⟩
    ·obtain ⟨u,c1,c2,c3⟩:=y3' 4 _ rfl;exact ⟨u,c1,c2,c3.free (pl hpp _ (by simp))⟩
   ·rw [List.getElem?_set_ne ej] at hx
    obtain ⟨z1,z2⟩:=y3 j x (by rw [List.getElem?_set_ne ej];exact hx)
    refine ⟨z1,fun c v hc=>?_⟩
    obtain ⟨u,c1,c2,c3⟩:=z2 c v hc
    exact ⟨u,c1,c2,c3.free (pl (hpe x (List.mem_of_getElem? hx)) v (List.mem_of_getElem? hc))⟩
  ·refine ⟨fun j els' hj=>?_,fun j j' b n c k n' c' k' hj hj'=>?_⟩
   ·by_cases e1:2*i+1=j
    ·subst e1
     rw [List.getElem?_set_self (by rw [List.length_set];exact hol)] at hj
     cases hj
     exact D4.up (Q':=Q) Q4.symm (Mem.Le.refl m1) fun b n c k h=>inx b (.inr (.inr (.inr (.inr ⟨n,c,k,by rw [←Q4];exact h⟩))))
    ·rw [List.getElem?_set_ne e1] at hj
     by_cases e2:2*i=j
     ·subst e2
      rw [List.getElem?_set_self hgl] at hj
      cases hj
      exact D3.up (Q':=Q) Q3.symm (Mem.Le.refl m1) fun b n c k h=>inx b (.inr (.inr (.inr (.inl ⟨n,c,k,by rw [←Q3];exact h⟩))))
     ·rw [List.getElem?_set_ne e2] at hj
      have hjl:=(List.getElem?_eq_some_iff.1 hj).1
      have hK:RowR R m Q j 1 els':=K3.1 j _ hj
      exact hK.up (Q':=Q) rfl hm1 fun b n c k h=>hR'n b (hfreeQ j b n c k hjl h (fun e=>e2 e.symm) (fun e=>e1 e.symm))
   ·rw [List.length_set,List.length_set] at hj hj'
    exact K3.2 j j' b n c k n' c' k' hj hj'
  ·exact (C.rok.row j z hz).up hm1 (Loc.Le.refl q) fun hy b hb=>hR'n b (hfree j z b hz hy hb g0 g1 g2 g3)
 ·intro j j' z z' b hz hz' hm hm' hb hb'
  have back:∀ (j:Nat) z,((((rows.set r0 (.box [ns,fs,.own r1,.own r2,sk'])).set r1 (.row 4 pipes')).set r2 (.row 5 (els.set i (.agg [.raw (rawQ Q (2*i)),a',.raw (rawQ Q (2*i+1)),rd',ov'])))).set r3 (.pack Q ((subs.set (2*i) got').set (2*i+1) out')))[j]?=some z→z.mut=true→Occ q j z b→∃ z0,rows[j]?=some z0∧z0.mut=true∧Occ q j z0 b:=fun j z hz hm hb=>by
   rcases old j z hz with ⟨rfl,rfl⟩|⟨rfl,rfl⟩|⟨rfl,rfl⟩|⟨rfl,rfl⟩|⟨-,-,-,-,hz⟩
   ·exact ⟨_,h0,rfl,hb⟩
   ·exact ⟨_,h1,rfl,hb⟩
   ·exact ⟨_,h2,rfl,hb⟩
   ·refine ⟨_,h3,rfl,?_⟩
    obtain ⟨x,n,c,k,hx,hQ⟩:=hb
    rw [List.length_set,List.length_set] at hx
    exact ⟨x,n,c,k,hx,hQ⟩
   ·exact ⟨z,hz,hm,hb⟩
  obtain ⟨y,g1,g2,g3⟩:=back j z hz hm hb
  obtain ⟨y',g1',g2',g3'⟩:=back j' z' hz' hm' hb'
  exact C.rok.apart j j' y y' b g1 g1' g2 g2' g3 g3'
 ·rcases hvp with hp|rfl
  ·exact pure_vr hp hvu
  ·cases hvu with
   | @tup _ _ us hl he=>exact .tup hl fun i v u e=>by simp at e
end
end Gv
end PartFo
section PartM1
namespace Gv
open Go Gp
def allIns (N:List Gp.Node):List Port:=N.flatMap (·.ins)
def insB (N:List Gp.Node) (i:Nat):Nat:=(allIns (N.take i)).length
def ndG (N:List Gp.Node) (i:Nat):Gp.Node:=N.getD i dN
def inP (N:List Gp.Node) (i k:Nat):Port:=(ndG N i).ins.getD k ⟨0,0⟩
def nI (N:List Gp.Node) (i:Nat):Nat:=(ndG N i).ins.length
def nO (N:List Gp.Node) (i:Nat):Nat:=(outsN (ndG N i)).toNat
def pix (N:List Gp.Node) (i k:Nat):Nat:=insB N i+k
theorem ndG_at {N:List Gp.Node} {i:Nat} (h:i < N.length):ndG N i=N[i]:=by
 unfold ndG
 rw [List.getD_eq_getElem?_getD,List.getElem?_eq_getElem h]
 rfl
theorem allIns_app (a b:List Gp.Node):allIns (a++b)=allIns a++allIns b:=by simp [allIns]
theorem take_snoc {N:List Gp.Node} {i:Nat} (h:i < N.length):N.take (i+1)=N.take i++[ndG N i]:=by
 rw [ndG_at h,List.take_succ_eq_append_getElem h]
theorem insB_succ {N:List Gp.Node} {i:Nat} (h:i < N.length):insB N (i+1)=insB N i+nI N i:=by
 unfold insB nI
 rw [take_snoc h,allIns_app,List.length_append]
 simp [allIns]
theorem insB_end (N:List Gp.Node):insB N N.length=(allIns N).length:=by simp [insB]
theorem insB_mono {N:List Gp.Node} {i j:Nat} (h:i≤j) (hj:j≤N.length):insB N i≤insB N j:=by
 induction j with
 | zero => have : i = 0 := by omega
           subst this;exact Nat.le_refl _
 | succ j ih =>
  rcases Nat.lt_or_ge i (j+1) with h1|h1
  ·have:=ih (by omega) (by omega)
   rw [insB_succ (by omega)]
   omega
  ·have:i=j+1:=by omega
   subst this;exact Nat.le_refl _
theorem pix_lt {N:List Gp.Node} {i k:Nat} (hi:i < N.length) (hk:k < nI N i):pix N i k < (allIns N).length:=by
 have h1:=insB_succ hi
 have h2:=insB_mono (N:=N) (i:=i+1) (j:=N.length) (by omega) (Nat.le_refl _)
 rw [insB_end] at h2
 unfold pix
 omega
theorem pix_lt2 {N:List Gp.Node} {i i' k k':Nat} (hi':i' < N.length) (h:i < i') (hk:k < nI N i):pix N i k < pix N i' k':=by
 have h1:=insB_succ (N:=N) (i:=i) (by omega)
 have h2:=insB_mono (N:=N) (i:=i+1) (j:=i') (by omega) (by omega)
 unfold pix
 omega
theorem pix_inj {N:List Gp.Node} {i i' k k':Nat} (hi:i < N.length) (hi':i' < N.length) (hk:k < nI N i) (hk':k' < nI N i') (h:pix N i k=pix N i' k'):i=i'∧k=k':=by
 rcases Nat.lt_trichotomy i i' with h1|h1|h1
 ·have:=pix_lt2 (k':=k') hi' h1 hk
  omega
 ·subst h1
  unfold pix at h
  exact ⟨rfl,by omega⟩
 ·have:=pix_lt2 (k':=k) hi h1 hk'
  omega
theorem allIns_at {N:List Gp.Node} {i k:Nat} (hi:i < N.length) (hk:k < nI N i):(allIns N)[pix N i k]?=some (inP N i k):=by
 have e:N=N.take i++(ndG N i::N.drop (i+1)):=by
  rw [ndG_at hi,←List.drop_eq_getElem_cons hi,List.take_append_drop]
 have e2:allIns N=allIns (N.take i)++((ndG N i).ins++allIns (N.drop (i+1))):=by
  conv=>lhs;rw [e,allIns_app]
  simp [allIns]
 rw [e2]
 unfold pix insB
 rw [List.getElem?_append_right (by omega),Nat.add_sub_cancel_left,List.getElem?_append_left (by exact hk)]
 unfold inP
 rw [List.getD_eq_getElem?_getD,List.getElem?_eq_getElem (by exact hk)]
 rfl
theorem mem_allIns {N:List Gp.Node} {p:Port} (h:p∈allIns N):∃ i k,i < N.length∧k < nI N i∧inP N i k=p:=by
 obtain ⟨n,hn,hp⟩:=List.mem_flatMap.1 h
 obtain ⟨i,hi,rfl⟩:=List.getElem_of_mem hn
 obtain ⟨k,hk,rfl⟩:=List.getElem_of_mem hp
 refine ⟨i,k,hi,?_,?_⟩
 ·unfold nI;rw [ndG_at hi];exact hk
 ·unfold inP
  rw [ndG_at hi,List.getD_eq_getElem?_getD,List.getElem?_eq_getElem hk]
  rfl
structure GF (N:List Gp.Node):Prop where
 len:1≤N.length∧N.length≤60
 node:∀ i,i < N.length→checkN (ndG N i)=0
 sink:∀ i,i < N.length→((ndG N i).kind=5↔i+1=N.length)
 port:∀ i,i < N.length→∀ k,k < nI N i→∃ j o:Nat,inP N i k=⟨j,o⟩∧j < i∧o < nO N j
 nodup:(allIns N).Nodup
 all:∀ j,j < N.length→∀ o,o < nO N j→(⟨j,o⟩:Port)∈allIns N
theorem keyP_inj {p q:Port} (h:keyP p=keyP q):p=q:=by
 obtain ⟨a,b⟩:=p
 obtain ⟨c,d⟩:=q
 simp only [keyP,List.cons.injEq,and_true] at h
 obtain ⟨rfl,rfl⟩:=h
 rfl
theorem ports_keys {N:List Gp.Node} {i:Nat}:∀ {l:List Port} {u u':Ents},(∀ e∈u,e.2=true)→portsGo N i l u=(0,u')→(∀ e∈u',e.2=true)∧u'.map Prod.fst=u.map Prod.fst++l.map keyP∧∀ p∈l,∃ j o:Nat,p=⟨j,o⟩∧j < i∧(o:Int) < outsN (ndG N j)
 | [],u,u',h,e=>by
  simp only [portsGo,Prod.mk.injEq,true_and] at e
  subst e
  exact ⟨h,by simp,fun p hp=>by simp at hp⟩
 | p::r,u,u',h,e=>by
  rw [portsGo] at e
  split at e
  ·cases e
  ·rename_i h1
   split at e
   ·cases e
   ·rename_i h2
    have h2:mget false u [p.node,p.out]=false:=by simpa using h2
    rw [mput_new h h2] at e
    obtain ⟨a1,a2,a3⟩:=ports_keys (fun x hx=>by
     rcases List.mem_append.1 hx with hx|hx
     ·exact h x hx
     ·rw [List.mem_singleton] at hx
      subst hx;rfl) e
    refine ⟨a1,?_,fun q hq=>?_⟩
    ·rw [a2]
     simp [keyP]
    ·rcases List.mem_cons.1 hq with rfl|hq
     ·refine ⟨q.node.toNat,q.out.toNat,?_,by omega,?_⟩
      ·obtain ⟨a,b⟩:=q
       dsimp only at h1
       show (⟨a,b⟩:Port)=⟨a.toNat,b.toNat⟩
       rw [Int.toNat_of_nonneg (by omega),Int.toNat_of_nonneg (by omega)]
      ·rw [Int.toNat_of_nonneg (by omega)]
       show q.out < outsN (N.getD q.node.toNat ⟨0,[],zCmd,0,0,[]⟩)
       omega
     ·exact a3 q hq
theorem nodes_keys {N:List Gp.Node}:∀ (r:List Gp.Node) (i:Nat) (o:Int) (u:Ents), N.drop i=r→i≤N.length→(∀ e∈u, e.2=true)→u.map Prod.fst=(allIns (N.take i)).map keyP→o=((allK N i).length:Nat)→nodesGo N i r o u=0 →
  1≤N.length∧(∀ j,i≤j→j < N.length→checkN (ndG N j)=0∧((ndG N j).kind=5↔j+1=N.length)∧∀ p∈(ndG N j).ins,∃ a b:Nat,p=⟨a,b⟩∧a < j∧(b:Int) < outsN (ndG N a))∧((allIns N).length:Int)=(allK N N.length).length
 | [],i,o,u,hd,hi,h1,h2,h3,h=>by
  have ei:i=N.length:=by
   have:=congrArg List.length hd
   rw [List.length_drop] at this
   simp at this
   omega
  subst ei
  rw [nodesGo] at h
  split at h
  ·cases h
  ·rename_i h4
   refine ⟨by omega,fun j a b=>by omega,?_⟩
   have:=congrArg List.length h2
   rw [List.length_map,List.length_map,List.take_length] at this
   omega
 | n::r,i,o,u,hd,hi,h1,h2,h3,h=>by
  have hlt:i < N.length:=by
   have:=congrArg List.length hd
   rw [List.length_drop,List.length_cons] at this
   omega
  rw [List.drop_eq_getElem_cons hlt] at hd
  obtain ⟨hn,hr⟩:=List.cons.inj hd
  have hnd:ndG N i=n:=by rw [ndG_at hlt,hn]
  rw [nodesGo] at h
  split at h
  ·rename_i g;exact absurd h g
  ·rename_i g1
   split at h
   ·rename_i g;exact absurd h g
   ·rename_i g2
    split at h
    ·cases h
    ·rename_i g3
     have hp:portsGo N i n.ins u=(0,(portsGo N i n.ins u).2):=by rw [←Decidable.not_not.1 g2]
     obtain ⟨a1,a2,a3⟩:=ports_keys h1 hp
     have hob:=outsN_bnd (Decidable.not_not.1 g1)
     obtain ⟨b1,b2,b3⟩:=nodes_keys r (i+1) _ _ hr hlt a1 (by
      rw [a2,h2,take_snoc hlt,allIns_app,List.map_append,hnd]
      simp [allIns]) (by
      rw [allK,List.length_append,List.length_map,List.length_range,h3]
      show _=((_+(outsN (ndG N i)).toNat:Nat):Int)
      rw [hnd]
      omega) h
     refine ⟨b1,fun j hj1 hj2=>?_,b3⟩
     rcases Nat.lt_or_ge i j with hj|hj
     ·exact b2 j (by omega) hj2
     ·have:j=i:=by omega
      subst this
      rw [hnd]
      refine ⟨Decidable.not_not.1 g1,?_,a3⟩
      have h4:(n.kind=5)↔((j:Int)=(N.length:Int)-1):=by simpa using Decidable.not_not.1 g3
      rw [h4];omega
theorem ports_nd {N:List Gp.Node} {i:Nat}:∀ {l:List Port} {u u':Ents},(∀ e∈u,e.2=true)→(u.map Prod.fst).Nodup→portsGo N i l u=(0,u')→(u'.map Prod.fst).Nodup
 | [],u,u',h,hn,e=>by
  simp only [portsGo,Prod.mk.injEq,true_and] at e
  subst e
  exact hn
 | p::r,u,u',h,hn,e=>by
  rw [portsGo] at e
  split at e
  ·cases e
  ·split at e
   ·cases e
   ·rename_i h2
    have h2:mget false u [p.node,p.out]=false:=by simpa using h2
    rw [mput_new h h2] at e
    refine ports_nd (fun x hx=>?_) ?_ e
    ·rcases List.mem_append.1 hx with hx|hx
     ·exact h x hx
     ·rw [List.mem_singleton] at hx
      subst hx;rfl
    ·rw [List.map_append,List.nodup_append]
     refine ⟨hn,by simp,fun a ha b hb e2=>?_⟩
     subst e2
     have hb:a=[p.node,p.out]:=by simpa using hb
     rw [hb] at ha
     have:=(mget_true h _).2 ha
     rw [h2] at this
     cases this
theorem nodes_nd {N:List Gp.Node}:∀ (r:List Gp.Node) (i:Nat) (o:Int) (u:Ents),N.drop i=r→i≤N.length→(∀ e∈u,e.2=true)→(u.map Prod.fst).Nodup→u.map Prod.fst=(allIns (N.take i)).map keyP→nodesGo N i r o u=0→((allIns N).map keyP).Nodup
 | [],i,o,u,hd,hi,h1,h2,h3,h=>by
  have ei:i=N.length:=by
   have:=congrArg List.length hd
   rw [List.length_drop] at this
   simp at this
   omega
  subst ei
  rw [List.take_length] at h3
  rw [←h3]
  exact h2
 | n::r,i,o,u,hd,hi,h1,h2,h3,h=>by
  have hlt:i < N.length:=by
   have:=congrArg List.length hd
   rw [List.length_drop,List.length_cons] at this
   omega
  rw [List.drop_eq_getElem_cons hlt] at hd
  obtain ⟨hn,hr⟩:=List.cons.inj hd
  have hnd:ndG N i=n:=by rw [ndG_at hlt,hn]
  rw [nodesGo] at h
  split at h
  ·rename_i g;exact absurd h g
  ·rename_i g1
   split at h
   ·rename_i g;exact absurd h g
   ·rename_i g2
    split at h
    ·cases h
    ·have hp:portsGo N i n.ins u=(0,(portsGo N i n.ins u).2):=by rw [←Decidable.not_not.1 g2]
     obtain ⟨a1,a2,a3⟩:=ports_keys h1 hp
     exact nodes_nd r (i+1) _ _ hr hlt a1 (ports_nd h1 h2 hp) (by
      rw [a2,h3,take_snoc hlt,allIns_app,List.map_append,hnd]
      simp [allIns]) h
theorem gf_of {N:List Gp.Node} (h:checkG N=0):GF N:=by
 unfold checkG at h
 split at h
 ·cases h
 ·rename_i h60
  obtain ⟨a1,a2,a3⟩:=nodes_keys N 0 0 [] rfl (Nat.zero_le _) (fun e he=>by simp at he) (by simp [allIns]) (by simp [allK]) h
  have a4:=nodes_nd N 0 0 [] rfl (Nat.zero_le _) (fun e he=>by simp at he) (by simp) (by simp [allIns]) h
  have a5:(allIns N).Nodup:=by
   have:=List.pairwise_map.1 a4
   exact this.imp fun h e=>h (by rw [e])
  have hport:∀ i,i < N.length→∀ k,k < nI N i→∃ j o:Nat,inP N i k=⟨j,o⟩∧j < i∧o < nO N j:=fun i hi k hk=>by
   have hm:inP N i k∈(ndG N i).ins:=by
    unfold inP
    rw [List.getD_eq_getElem?_getD,List.getElem?_eq_getElem (by exact hk)]
    exact List.getElem_mem _
   obtain ⟨a,b,c,d,e⟩:=(a2 i (Nat.zero_le _) hi).2.2 _ hm
   exact ⟨a,b,c,d,by unfold nO;omega⟩
  refine ⟨⟨a1,by omega⟩,fun i hi=>(a2 i (Nat.zero_le _) hi).1,fun i hi=>(a2 i (Nat.zero_le _) hi).2.1,hport,a5,fun j hj o ho=>?_⟩
  have hsub:∀ x∈(allIns N).map keyP,x∈allK N N.length:=fun x hx=>by
   obtain ⟨p,hp,rfl⟩:=List.mem_map.1 hx
   obtain ⟨i,k,hi,hk,rfl⟩:=mem_allIns hp
   obtain ⟨j,o,e,h1,h2⟩:=hport i hi k hk
   rw [e]
   refine mem_allK.2 ⟨j,o,rfl,by omega,?_⟩
   unfold nO at h2
   show (o:Int) < outsN (ndG N j)
   omega
  have:=all_of_len a4 hsub (by rw [List.length_map];omega) [(j:Int),(o:Int)] (mem_allK.2 ⟨j,o,rfl,hj,by
   unfold nO at ho
   show (o:Int) < outsN (ndG N j)
   omega⟩)
  obtain ⟨p,hp,e⟩:=List.mem_map.1 this
  have:p=⟨j,o⟩:=keyP_inj e
  rw [←this]
  exact hp
theorem GF.rd {N:List Gp.Node} (h:GF N) {j o:Nat} (hj:j < N.length) (ho:o < nO N j):∃ i k,i < N.length∧k < nI N i∧inP N i k=⟨j,o⟩∧j < i:=by
 obtain ⟨i,k,hi,hk,e⟩:=mem_allIns (h.all j hj o ho)
 obtain ⟨a,b,e2,h1,h2⟩:=h.port i hi k hk
 rw [e] at e2
 simp only [Port.mk.injEq] at e2
 exact ⟨i,k,hi,hk,e,by omega⟩
theorem GF.uniq {N:List Gp.Node} (h:GF N) {i i' k k':Nat} (hi:i < N.length) (hi':i' < N.length) (hk:k < nI N i) (hk':k' < nI N i') (e:inP N i k=inP N i' k'):i=i'∧k=k':=by
 have h1:=allIns_at hi hk
 have h2:=allIns_at hi' hk'
 rw [←e] at h2
 refine pix_inj hi hi' hk hk' ?_
 obtain ⟨l1,e1⟩:=List.getElem?_eq_some_iff.1 h1
 obtain ⟨l2,e2⟩:=List.getElem?_eq_some_iff.1 h2
 have a:=List.Nodup.idxOf_getElem h.nodup _ l1
 have b:=List.Nodup.idxOf_getElem h.nodup _ l2
 rw [e1] at a
 rw [e2] at b
 exact a.symm.trans b
def readerI (N:List Gp.Node) (p:Port):Nat:=(allIns N).idxOf p
theorem GF.reader {N:List Gp.Node} (h:GF N) {i k:Nat} (hi:i < N.length) (hk:k < nI N i):readerI N (inP N i k)=pix N i k:=by
 obtain ⟨l1,e1⟩:=List.getElem?_eq_some_iff.1 (allIns_at hi hk)
 unfold readerI
 rw [←e1]
 exact List.Nodup.idxOf_getElem h.nodup _ l1
end Gv
end PartM1
