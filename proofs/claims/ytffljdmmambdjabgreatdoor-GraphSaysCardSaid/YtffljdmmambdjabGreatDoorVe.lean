/- A calculus of what functions come to, part e: what is said holds in every world; conditions stand in each theorem. -/
import Derived.Lib.IndexLaws
import Derived.Test.YtffljdmmambdjabGreatDoorVc
import Derived.Test.YtffljdmmambdjabGreatDoorVd
set_option linter.unusedVariables false
set_option linter.unusedSimpArgs false
set_option linter.unusedSectionVars false
section PartM6
namespace Gv
open Go Gp
variable {f:List FileS} {g:List Gp.Node} {rm:Int} {m m':MachS} {c c' e e':Nat→Nat→Nat} {i k:Nat}
end Gv
end PartM6
section PartM7
namespace Gv
open Go Gp
variable {f:List FileS} {g:List Gp.Node} {rm:Int} {m m':MachS} {c c' e e':Nat→Nat→Nat} {i k:Nat}
end Gv
end PartM7
section PartM8
namespace Gv
open Go Gp
variable {f:List FileS} {g:List Gp.Node} {rm:Int} {m m':MachS} {c c' e e':Nat→Nat→Nat} {i k:Nat}
theorem sink_at (G:GF g):(ndG g (g.length-1)).kind=5∧nI g (g.length-1)=1:=by
 have h1:=G.len.1
 have hi:g.length-1 < g.length:=by omega
 have h5:=(G.sink (g.length-1) hi).2 (by omega)
 refine ⟨h5,?_⟩
 unfold nI
 rcases checkN_shape (G.node _ hi) with h|h|h|h|h<;>omega
end Gv
end PartM8
section PartM9
namespace Gv
open Go Gp
variable {f:List FileS} {g:List Gp.Node} {rm:Int} {m m':MachS} {c c' e e':Nat→Nat→Nat} {i k:Nat}
def rndGo:List Nat→MachS × Bool × Bool→MachS × Bool × Bool
 | [],s=>s
 | i::r,s=>rndGo r ((stepM s.1 i).1,s.2.1 && (pr (stepM s.1 i).1 i).over,decide ((stepM s.1 i).2=0) || s.2.2)
def rnd (m:MachS):MachS × Bool × Bool:=rndGo (List.range m.p.length) (m,true,false)
inductive FinN:Nat→MachS→MachS × Int→Prop
 | over {m:MachS} (h:(rnd m).2.1=true):FinN 0 m ((rnd m).1,0)
 | stuck {m:MachS} (h:(rnd m).2.1=false) (h2:(rnd m).2.2=false):FinN 0 m (zM,8)
 | more {m:MachS} {n:Nat} {r:MachS × Int} (h:(rnd m).2.1=false) (h2:(rnd m).2.2=true) (h3:FinN n (rnd m).1 r):FinN (n+1) m r
end Gv
end PartM9
section PartM10
namespace Gv
open Go Gp
variable {f:List FileS} {g:List Gp.Node} {rm:Int} {m m':MachS} {c c' e e':Nat→Nat→Nat} {i k:Nat}
def Ok (f:List FileS) (g:List Gp.Node) (rm:Int) (m:MachS):Prop:=∃ c e,Inv f g rm m c e
theorem Ok.sh (h:Ok f g rm m):Sh f g m:=by obtain ⟨c,e,I⟩:=h;exact I.sh
theorem FinN.uniq {n n':Nat} {m:MachS} {r r':MachS × Int} (h:FinN n m r) (h':FinN n' m r'):n=n'∧r=r':=by
 induction h generalizing n' with
 | over h =>
  cases h' with
  | over=>exact ⟨rfl,rfl⟩
  | stuck h1=>rw [h] at h1;cases h1
  | more h1=>rw [h] at h1;cases h1
 | stuck h h2 =>
  cases h' with
  | over h1=>rw [h] at h1;cases h1
  | stuck=>exact ⟨rfl,rfl⟩
  | more h1 h3=>rw [h2] at h3;cases h3
 | more h h2 h3 ih =>
  cases h' with
  | over h1=>rw [h] at h1;cases h1
  | stuck h1 h4=>rw [h2] at h4;cases h4
  | more h1 h4 h5 =>
   obtain ⟨a,b⟩:=ih h5
   exact ⟨by rw [a],b⟩
end Gv
end PartM10
section PartM11
namespace Gv
open Go Gp
theorem makeN_len2 {n:Gp.Node} {f:List FileS} {ins:List Bs} (h:checkN n=0) (hk1:n.kind≠1) (hi:n.ins.length=ins.length) (hl:ins.flatten.length≤500000000):(makeN n f ins).flatten.length≤ins.flatten.length+60:=by
 have h0:=getD_flat ins 0
 have h1:=put_lines (ins.getD 0 [])
 have h2:=linesOf_len (ins.getD 0 [])
 unfold makeN
 rcases checkN_shape h with ⟨k,e⟩|⟨k,e,w1,w2⟩|⟨k,e,hc⟩|⟨k,e1,e2,hc⟩|⟨k,e⟩
 ·exact absurd k hk1
 ·rw [if_neg (by omega),if_pos k,split_len2 _ _ (by omega)]
  omega
 ·rw [if_neg (by omega),if_neg (by omega),if_pos k]
  have h3:=linesC_put9 hc (linesOf (ins.getD 0 [])) (by omega)
  simp only [List.flatten_cons,List.flatten_nil,List.append_nil]
  omega
 ·rw [if_neg (by omega),if_neg (by omega),if_neg (by omega),if_pos k]
  have h3:=put_flat ins
  have h4:=put_len (l:=(ins.map linesOf).flatten) (n:=600000000) (by omega)
  have h5:=joinB_put9 (checkJoin_four hc).1 (ins.map linesOf) (by rw [List.length_map];omega) (by omega)
  simp only [List.flatten_cons,List.flatten_nil,List.append_nil]
  omega
 ·rw [if_neg (by omega),if_neg (by omega),if_neg (by omega),if_neg (by omega)]
  simp
def wN (n:Gp.Node):Nat:=if n.kind=1 then 4100 else 60
def wSum (N:List Gp.Node) (i:Nat):Nat:=((N.take i).map wN).sum
theorem wSum_succ {N:List Gp.Node} {i:Nat} (hi:i < N.length):wSum N (i+1)=wSum N i+wN N[i]:=by
 unfold wSum
 rw [List.take_succ_eq_append_getElem hi,List.map_append,List.sum_append]
 simp
theorem wSum_mono {N:List Gp.Node} {i j:Nat} (h:i≤j) (hj:j≤N.length):wSum N i≤wSum N j:=by
 induction j with
 | zero => have : i = 0 := by omega
           subst this;exact Nat.le_refl _
 | succ j ih =>
  rcases Nat.lt_or_ge i (j+1) with h1|h1
  ·have:=ih (by omega) (by omega)
   rw [wSum_succ (by omega)]
   omega
  ·have:i=j+1:=by omega
   subst this;exact Nat.le_refl _
theorem wSum_le {N:List Gp.Node}:∀ {i:Nat},i≤N.length→wSum N i≤4100*i
 | 0,_=>by simp [wSum]
 | i+1,h=>by
  have:=wSum_le (N:=N) (i:=i) (by omega)
  rw [wSum_succ (by omega)]
  unfold wN
  split<;>omega
def Upw (N:List Gp.Node) (out:List (List Bs)):Prop:=∃ o u G,nodesGo N out.length (N.drop out.length) o u=0∧Left N out u G∧tot G≤wSum N out.length∧∀ l∈out,∀ x∈l,x.length≤wSum N N.length
theorem upw_node {N:List Gp.Node} {out:List (List Bs)} (hU:Upw N out) (h60:N.length≤60) (hi:out.length < N.length) (f:List FileS) (hf:∀ x∈f,x.b.length≤4000):Upw N (out++[makeN N[out.length] f (insOf out N[out.length].ins)]):=by
 obtain ⟨o,u,G,hgo,hL,ht,hx⟩:=hU
 have hw:=wSum_le (N:=N) (i:=out.length) (by omega)
 have hw2:=wSum_succ hi
 have hw3:=wSum_mono (N:=N) (i:=out.length+1) (j:=N.length) (by omega) (Nat.le_refl _)
 rw [nodesGo_at hi] at hgo
 split at hgo
 ·rename_i h1;exact absurd hgo h1
 ·rename_i h1
  have hcn:checkN N[out.length]=0:=Decidable.not_not.1 h1
  split at hgo
  ·rename_i h2;exact absurd hgo h2
  ·rename_i h2
   have hp:portsGo N out.length N[out.length].ins u=(0,(portsGo N out.length N[out.length].ins u).2):=by
    rw [←Decidable.not_not.1 h2]
   split at hgo
   ·cases hgo
   ·rename_i h3
    obtain ⟨G',hL',hle,hall⟩:=ports_left hL hp
    obtain ⟨hs1,hs2⟩:=left_snoc hL' hi (makeN_outs (f:=f) (ins:=insOf out N[out.length].ins) hcn)
    have hm:(makeN N[out.length] f (insOf out N[out.length].ins)).flatten.length≤(insOf out N[out.length].ins).flatten.length+wN N[out.length]:=by
     unfold wN
     by_cases k1:N[out.length].kind=1
     ·rw [if_pos k1]
      have:=makeN_len (f:=f) (ins:=insOf out N[out.length].ins) hcn (by simp [insOf]) hf (by omega)
      omega
     ·rw [if_neg k1]
      exact makeN_len2 hcn k1 (by simp [insOf]) (by omega)
    refine ⟨o+outsN N[out.length],_,_,?_,hs1,?_,fun l hl x hxl=>?_⟩
    ·rw [List.length_append,List.length_singleton]
     exact hgo
    ·rw [hs2,List.length_append,List.length_singleton,hw2]
     omega
    ·rcases List.mem_append.1 hl with hl|hl
     ·exact hx l hl x hxl
     ·rw [List.mem_singleton] at hl
      subst hl
      have:=el_flat hxl
      omega
theorem upw_all {N:List Gp.Node} (h:checkG N=0) (f:List FileS) (hf:∀ x∈f,x.b.length≤4000):∀ i,i≤N.length→Upw N (outOf f (N.take i))
 | 0,_=>by
  unfold checkG at h
  split at h
  ·cases h
  ·exact ⟨0,[],[],h,⟨rfl,fun k hk=>absurd hk (by simp [outOf]),fun k=>rfl,fun k o _=>rfl⟩,by simp [tot],fun l hl=>by simp [outOf] at hl⟩
 | i+1,hi=>by
  have h60:=(gf_of h).len.2
  have ih:=upw_all h f hf i (by omega)
  have hl:(outOf f (N.take i)).length=i:=by rw [outOf_len,List.length_take];omega
  have:=upw_node ih h60 (by rw [hl];omega) f hf
  simp only [hl] at this
  rw [List.take_succ_eq_append_getElem (by omega),outOf_snoc]
  exact this
theorem Vv_len {N:List Gp.Node} (h:checkG N=0) (f:List FileS) (hf:∀ x∈f,x.b.length≤4000) (j o:Nat):(Vv f N j o).length≤wSum N N.length:=by
 obtain ⟨_,_,_,_,_,_,hx⟩:=upw_all h f hf N.length (Nat.le_refl _)
 rw [List.take_length] at hx
 unfold Vv
 rw [List.getD_eq_getElem?_getD,List.getD_eq_getElem?_getD]
 cases h1:(outOf f N)[j]? with
 | none=>simp
 | some l =>
  cases h2:l[o]? with
  | none=>simp [h2]
  | some x =>
   simp only [Option.getD_some,h2]
   exact hx l (List.mem_of_getElem? h1) x (List.mem_of_getElem? h2)
theorem wSum_cnt:∀ N:List Gp.Node,(N.map wN).sum≤4100*cnt 1 N+60*N.length
 | []=>by simp [cnt]
 | n::r=>by
  have h:=wSum_cnt r
  have hc:cnt 1 (n::r)=(if n.kind=1 then 1 else 0)+cnt 1 r:=by
   unfold cnt
   rw [List.filter_cons]
   by_cases k:n.kind=1
   ·simp [k];omega
   ·simp [k]
  rw [List.map_cons,List.sum_cons,hc,List.length_cons]
  by_cases k:n.kind=1
  ·have e:wN n=4100:=if_pos k
   rw [if_pos k,e];omega
  ·have e:wN n=60:=if_neg k
   rw [if_neg k,e];omega
theorem evalGo_end (f:List FileS) (g:List Gp.Node) (G:GF g):evalGo f g []=(Vi f g (g.length-1) 0,0):=by
 have h1:=G.len.1
 have hs:=sink_at G
 have e:g=g.take (g.length-1)++[ndG g (g.length-1)]:=by
  have:=take_snoc (N:=g) (i:=g.length-1) (by omega)
  rw [←this,show g.length-1+1=g.length by omega,List.take_length]
 have hno:∀ n∈g.take (g.length-1),n.kind≠5:=fun n hn h5=>by
  obtain ⟨i,hi,rfl⟩:=List.getElem_of_mem hn
  rw [List.length_take] at hi
  rw [List.getElem_take] at h5
  have:=(G.sink i (by omega)).1 (by rw [ndG_at (by omega)];exact h5)
  omega
 have h2:evalGo f g []=evalGo f (g.take (g.length-1)++[ndG g (g.length-1)]) []:=congrArg (fun x=>evalGo f x []) e
 rw [h2,evalGo_pre f _ _ _ hno]
 show evalGo f [ndG g (g.length-1)] (outOf f (g.take (g.length-1)))=_
 rw [evalGo,if_pos hs.1]
 obtain ⟨t,ht⟩:=outOf_pre f (g.take (g.length-1)) [ndG g (g.length-1)]
 rw [←e] at ht
 have hl:(outOf f (g.take (g.length-1))).length=g.length-1:=by rw [outOf_len,List.length_take];omega
 congr 1
 have hk:0 < (ndG g (g.length-1)).ins.length:=by
  have:=hs.2
  unfold nI at this
  omega
 obtain ⟨j,o,h3,h4,h5⟩:=G.port (g.length-1) (by omega) 0 hk
 rw [Vi_eq h3]
 have h6:(ndG g (g.length-1)).ins[0]=⟨(j:Int),(o:Int)⟩:=by
  rw [←h3]
  unfold inP
  rw [List.getD_eq_getElem?_getD,List.getElem?_eq_getElem hk]
  rfl
 unfold insOf
 rw [List.getD_eq_getElem?_getD,List.getElem?_map,List.getElem?_eq_getElem hk]
 show portAt _ (ndG g (g.length-1)).ins[0]=_
 rw [h6]
 unfold Vv
 rw [ht]
 show ((outOf f (g.take (g.length-1))).getD j []).getD o []=_
 rw [getD_app _ _ _ (by omega)]
end Gv
end PartM11
section PartFo
namespace Gv
open Go Go.RowKit Gw
variable [Glob]
section
variable {w0:Start} {w w':World} {m0 R m:Mem} {q:Loc} {rows:Rows} {P:Program}
def RowR (R m:Mem) (Q:Loc) (j k:Nat) (els:List V):Prop:=∃ ob cap,Q j=some (ob,els.length,cap,k)∧els.length≤cap∧cap≤MAXL∧(ob=none→cap=0)∧∀ b,ob=some b→∃ arr T fz,R b=some (.cells arr T fz)∧arr.size=cap*k∧ElsR m k els arr∧noFk k arr.size fz
theorem RowR.up {R R' m m':Mem} {Q Q':Loc} {j j' k:Nat} {els:List V} (h:RowR R m Q j k els) (hq:Q' j'=Q j) (hm:m.Le m') (hR:∀ b n c k,Q j=some (some b,n,c,k)→R' b=R b):RowR R' m' Q' j' k els:=by
 obtain ⟨ob,cap,h1,h2,h3,h4,h5⟩:=h
 refine ⟨ob,cap,hq.trans h1,h2,h3,h4,fun b e=>?_⟩
 obtain ⟨arr,T,fz,h6,h7,h8,h9⟩:=h5 b e
 subst e
 exact ⟨arr,T,fz,by rw [hR _ _ _ _ h1];exact h6,h7,h8.up hm,h9⟩
theorem get5.{u} {α:Type u} {a b c d e x : α} {j:Nat} (h:[a,b,c,d,e][j]?=some x):(j=0∧x=a)∨(j=1∧x=b)∨(j=2∧x=c)∨(j=3∧x=d)∨(j=4∧x=e):=by
 match j,h with
 | 0,h=>simp at h;exact .inl ⟨rfl,h.symm⟩
 | 1,h=>simp at h;exact .inr (.inl ⟨rfl,h.symm⟩)
 | 2,h=>simp at h;exact .inr (.inr (.inl ⟨rfl,h.symm⟩))
 | 3,h=>simp at h;exact .inr (.inr (.inr (.inl ⟨rfl,h.symm⟩)))
 | 4,h=>simp at h;exact .inr (.inr (.inr (.inr ⟨rfl,h.symm⟩)))
 | n+5,h=>simp at h
end
end Gv
end PartFo
section PartFo2
namespace Gv
open Go Go.RowKit Gw Gp
variable [Glob]
section
variable {w0:Start} {w w':World} {m0 R m:Mem} {q:Loc} {rows:Rows} {P:Program}
end
end Gv
end PartFo2
section PartFo3
namespace Gv
open Go Go.RowKit Gw Gp
variable [Glob]
section
variable {w0:Start} {w w':World} {m0 R m:Mem} {q:Loc} {rows:Rows} {P:Program}
def Row.shut:Row→Bool
 | .dead|.row ..|.pack ..|.byt ..|.fz ..|.mp ..=>true
 | _=>false
end
end Gv
end PartFo3
section PartQ1
namespace Gv
open Go Gp
variable [Glob]
theorem wkEls_cons {sel:Sel} {x x':V} {r r':List V} (h:renL1 sel x.cells x'.cells) (t:wkEls sel r r'):wkEls sel (x::r) (x'::r') :=
 ⟨by simp [t.1],fun i y y' h1 h2=>by
  cases i with
  | zero=>simp at h1 h2;subst h1 h2;exact h
  | succ i=>exact t.2 i y y' (by simpa using h1) (by simpa using h2)⟩
theorem wkEls_nil {sel:Sel}:wkEls sel [] []:=⟨rfl,fun i x x' h=>by simp at h⟩
theorem wkEls_app {sel:Sel} {a a' b b':List V} (h:wkEls sel a a') (t:wkEls sel b b'):wkEls sel (a++b) (a'++b'):=by
 induction a generalizing a' with
 | nil =>
  cases a' with
  | nil=>exact t
  | cons x r=>exact absurd h.1 (by simp)
 | cons x r ih =>
  cases a' with
  | nil=>exact absurd h.1 (by simp)
  | cons x' r'=>exact wkEls_cons (h.2 0 x x' rfl rfl) (ih ⟨by simpa using h.1,fun i y y' e e'=>h.2 (i+1) y y' (by simpa using e) (by simpa using e')⟩)
theorem ren1_pure {sel:Sel} {v:V} (h:v.pure=true):ren1 sel v v:=by
 cases v<;>first|rfl|exact .inl rfl|cases h
theorem renL1_pure {sel:Sel}:∀ {cs:List V},(∀ v∈cs,v.pure=true)→renL1 sel cs cs
 | [],_=>trivial
 | v::r,h=>⟨ren1_pure (h v (by simp)),renL1_pure fun x hx=>h x (by simp [hx])⟩
theorem wkEls_pure {sel:Sel} {a:List V} (h:∀ x∈a,∀ v∈x.cells,v.pure=true):wkEls sel a a:=by
 induction a with
 | nil=>exact wkEls_nil
 | cons x r ih=>exact wkEls_cons (renL1_pure (h x (by simp))) (ih fun y hy=>h y (by simp [hy]))
theorem set_mid {α:Type _} (a:List α) (x y : α) (b:List α) {k:Nat} (h:k=a.length):(a++x::b).set k y=a++y::b:=by
 subst h
 rw [List.set_append_right _ _ (Nat.le_refl _)]
 simp
theorem get_mid {α:Type _} (a:List α) (x : α) (b:List α) {k:Nat} (h:k=a.length):(a++x::b)[k]?=some x:=by
 subst h
 rw [List.getElem?_append_right (Nat.le_refl _)]
 simp
theorem V.Le.nil {α:Type} (enc : α→V):V.Le .nil (.sl enc []):=fun m u h=>by
 cases h
 exact .sl0 (Nat.zero_le _) fun _=>rfl
theorem LeL.cons {x y:V} {xs ys:List V} (h:x.cells.length=y.cells.length∧∀ (j:Nat) v v',x.cells[j]?=some v→y.cells[j]?=some v'→v.Le v') (t:LeL xs ys):LeL (x::xs) (y::ys) :=
 ⟨by simp [t.len],fun i a b h1 h2=>by
  cases i with
  | zero=>simp at h1 h2;subst h1 h2;exact h
  | succ i=>exact t.el i a b (by simpa using h1) (by simpa using h2)⟩
theorem LeL.app {a b c d:List V} (h:LeL a b) (t:LeL c d):LeL (a++c) (b++d):=by
 induction a generalizing b with
 | nil =>
  cases b with
  | nil=>exact t
  | cons x r=>exact absurd h.len (by simp)
 | cons x r ih =>
  cases b with
  | nil=>exact absurd h.len (by simp)
  | cons y s=>exact LeL.cons (h.el 0 x y rfl rfl) (ih ⟨by simpa using h.len,fun i a b e e'=>h.el (i+1) a b (by simpa using e) (by simpa using e')⟩)
noncomputable def sofEls (L:List Bs) (n k:Nat) (c:Option Bs):List V:=((List.range k).map fun j=>blV (put (part L n j)))++(match c with|none=>V.nil|some _=>.own 1)::List.replicate (n-k-1) V.nil
noncomputable def sofRow (c:Option Bs):Row:=match c with|none=>.dead|some b=>.row 1 (b.map byteV)
def sofI (L:List Bs) (n i k:Nat) (c:Option Bs):Prop:=i≤L.length∧k < n∧k*L.length / n≤i∧i≤(k+1)*L.length / n∧c.getD []=put ((L.take i).drop (k*L.length / n))
theorem sofEls_len {L:List Bs} {n k:Nat} {c:Option Bs} (h:k < n):(sofEls L n k c).length=n:=by
 simp [sofEls];omega
theorem sofEls_get (L:List Bs) (n k:Nat) (c:Option Bs):(sofEls L n k c)[k]?=some (match c with|none=>V.nil|some _=>.own 1):=get_mid _ _ _ (by simp)
theorem sofEls_set (L:List Bs) (n k:Nat) (c:Option Bs) (v:V):(sofEls L n k c).set k v=((List.range k).map fun j=>blV (put (part L n j)))++v::List.replicate (n-k-1) V.nil:=set_mid _ _ _ _ (by simp)
theorem sofEls_0 {L:List Bs} {n:Nat} (h:1≤n):List.replicate n V.nil=sofEls L n 0 none:=by
 obtain ⟨p,rfl⟩:∃ p,n=p+1:=⟨n-1,by omega⟩
 rfl
theorem sof_wk (L:List Bs) (n k:Nat) (c d:Option Bs) {sel:Sel} {v v':V} (h:ren1 sel v v') (hv:v.cells=[v]) (hv':v'.cells=[v']) (he:(match d with|none=>V.nil|some _=>.own 1)=v'):wkEls sel ((sofEls L n k c).set k v) (sofEls L n k d):=by
 rw [sofEls_set]
 unfold sofEls
 rw [he]
 refine wkEls_app (wkEls_pure fun x hx w hw=>?_) (wkEls_cons (by rw [hv,hv'];exact ⟨h,trivial⟩) (wkEls_pure fun x hx w hw=>?_))
 ·obtain ⟨j,-,rfl⟩:=List.mem_map.1 hx
  simp [blV,V.cells] at hw
  subst hw;rfl
 ·rw [List.eq_of_mem_replicate hx] at hw
  simp [V.cells] at hw
  subst hw;rfl
theorem sof_same0 (L:List Bs) (n k:Nat) {sel:Sel}:wkEls sel (sofEls L n k none) (sofEls L n k none):=by
 have:=sof_wk L n k none none (sel:=sel) (v:=.nil) (v':=.nil) rfl rfl rfl rfl
 rwa [sofEls_set] at this
theorem sof_same1 (L:List Bs) (n k:Nat) (b d:Bs) {sel:Sel} (h:ren1 sel (.own 1) (.own 1)):wkEls sel (sofEls L n k (some b)) (sofEls L n k (some d)):=by
 have:=sof_wk L n k (some b) (some d) (sel:=sel) (v:=.own 1) (v':=.own 1) h rfl rfl rfl
 rwa [sofEls_set] at this
theorem sofI_step {L:List Bs} {n i k:Nat} {c:Option Bs} (h:sofI L n i k c) (hi:i < L.length) (hk:i < (k+1)*L.length / n):sofI L n (i+1) k (some (c.getD []++(L[i]++[10]))):=by
 obtain ⟨h1,h2,h3,h4,h5⟩:=h
 refine ⟨hi,h2,by omega,hk,?_⟩
 rw [h5]
 show put _++_=put _
 rw [List.take_succ_eq_append_getElem hi,List.drop_append_of_le_length (by simp;omega),put_append]
 simp [put]
theorem sofI_next {L:List Bs} {n i k:Nat} {c:Option Bs} (h:sofI L n i k c) (hi:i < L.length) (hk:(k+1)*L.length / n≤i):c.getD []=put (part L n k)∧sofI L n i (k+1) none:=by
 obtain ⟨h1,h2,h3,h4,h5⟩:=h
 have e:i=(k+1)*L.length / n:=by omega
 have hn:k+1 < n:=by
  rcases Nat.lt_or_ge (k+1) n with h|h
  ·exact h
  ·have:k+1=n:=by omega
   rw [this,Nat.mul_div_cancel_left _ (by omega)] at hk
   omega
 have hb:=part_bnd L.length n (k+1) (by omega)
 refine ⟨by rw [h5,e];rfl,h1,hn,by omega,Nat.le_trans (Nat.le_of_eq e) (Nat.le_trans (Nat.le_add_right _ _) hb.1),?_⟩
 rw [←e,List.drop_eq_nil_of_le (by simp;omega)]
 rfl
theorem sofEls_next {L:List Bs} {n k:Nat} (h:k+1 < n):((List.range k).map fun j=>blV (put (part L n j)))++blV (put (part L n k))::List.replicate (n-k-1) V.nil=sofEls L n (k+1) none:=by
 unfold sofEls
 rw [List.range_succ,List.map_append,List.append_assoc]
 obtain ⟨p,hp⟩:∃ p,n-k-1=p+1:=⟨n-k-2,by omega⟩
 rw [hp,show n-(k+1)-1=p by omega]
 rfl
theorem sofI_end {L:List Bs} {n k:Nat} {c:Option Bs} (h:sofI L n L.length k c):c.getD []=put (part L n k)∧∀ j,k < j→j < n→put (part L n j)=[]:=by
 obtain ⟨h1,h2,h3,h4,h5⟩:=h
 have hle:∀ j,k < j→L.length≤j*L.length / n:=fun j hj=>Nat.le_trans h4 (Nat.div_le_div_right (Nat.mul_le_mul_right _ hj))
 have ha:(k+1)*L.length / n=L.length∨L.length≤(k+1)*L.length / n:=.inr h4
 refine ⟨?_,fun j hj hjn=>?_⟩
 ·rw [h5]
  unfold Gp.part
  rw [List.take_of_length_le (Nat.le_refl _),List.take_of_length_le h4]
 ·unfold Gp.part
  rw [List.drop_eq_nil_of_le (Nat.le_trans (by rw [List.length_take];exact Nat.min_le_right _ _) (hle j hj))]
  rfl
theorem split_from {L:List Bs} {n k:Nat} (h:k < n) (hz:∀ j,k < j→j < n→put (part L n j)=[]):(splitLines L n).map blV=((List.range k).map fun j=>blV (put (part L n j)))++blV (put (part L n k))::List.replicate (n-k-1) (blV []):=by
 apply List.ext_getElem?
 intro j
 unfold splitLines
 rw [List.map_map]
 rcases Nat.lt_trichotomy j k with hj|hj|hj
 ·rw [List.getElem?_append_left (by simpa using hj)]
  simp [hj,show j < n by omega]
 ·subst hj
  rw [get_mid _ _ _ (by simp)]
  simp [h]
 ·rw [List.getElem?_append_right (by simp;omega)]
  simp only [List.length_map,List.length_range]
  obtain ⟨p,hp⟩:∃ p,j-k=p+1:=⟨j-k-1,by omega⟩
  rw [hp,List.getElem?_cons_succ]
  by_cases hjn:j < n
  ·rw [List.getElem?_replicate,if_pos (by omega)]
   simp [hjn,hz j hj hjn]
  ·rw [List.getElem?_eq_none (by simp;omega),List.getElem?_eq_none (by simp;omega)]
theorem le_cell {v v':V} (hv:v.cells=[v]) (hv':v'.cells=[v']) (h:v.Le v'):v.cells.length=v'.cells.length∧∀ (j:Nat) x x',v.cells[j]?=some x→v'.cells[j]?=some x'→x.Le x':=by
 rw [hv,hv']
 refine ⟨rfl,fun j x x' e e'=>?_⟩
 cases j with
 | zero=>simp at e e';subst e e';exact h
 | succ j=>simp at e
theorem sof_end {L:List Bs} {n k:Nat} {c:Option Bs} (h:sofI L n L.length k c) {v:V} (hv:v.cells=[v]) (hl:v.Le (blV (put (part L n k)))):LeL (((List.range k).map fun j=>blV (put (part L n j)))++v::List.replicate (n-k-1) V.nil) ((splitLines L n).map blV):=by
 have h2:=(sofI_end h).2
 rw [split_from h.2.1 h2]
 refine LeL.app (LeL.refl _) (LeL.cons (le_cell hv rfl hl) ?_)
 generalize n-k-1=p
 induction p with
 | zero=>exact LeL.refl _
 | succ p ih=>exact LeL.cons (le_cell rfl rfl (V.Le.nil byteV)) ih
noncomputable def sofFin (L:List Bs) (n k:Nat) (c:Option Bs):List V:=((List.range k).map fun j=>blV (put (part L n j)))++(match c with|none=>V.nil|some b=>blV b)::List.replicate (n-k-1) V.nil
theorem sofFin_end {L:List Bs} {n k:Nat} {c:Option Bs} (h:sofI L n L.length k c):LeL (sofFin L n k c) ((splitLines L n).map blV):=by
 cases c with
 | none =>
  refine sof_end h rfl ?_
  rw [←(sofI_end h).1]
  exact V.Le.nil byteV
 | some b =>
  refine sof_end h rfl ?_
  rw [←(sofI_end h).1]
  exact V.Le.refl _
theorem sofFin_pure (L:List Bs) (n k:Nat) (c:Option Bs):∀ x∈sofFin L n k c,allPure x.cells=true:=by
 intro x hx
 unfold sofFin at hx
 simp only [List.mem_append,List.mem_map,List.mem_cons] at hx
 rcases hx with ⟨j,-,rfl⟩|rfl|hx
 ·rfl
 ·cases c<;>rfl
 ·rw [List.eq_of_mem_replicate hx];rfl
end Gv
end PartQ1
section PartFo4
namespace Gv
open Go Go.RowKit Gw Gp
variable [Glob]
theorem ins_le {n:Gp.Node} (h:checkN n=0):n.ins.length≤5:=by
 unfold checkN at h
 split at h
 ·cases h
 ·split at h
  ·rename_i h1 h2
   exact absurd h h2
  ·split at h
   ·rename_i h3
    have h4:=h3.1
    unfold insN at h4
    split at h4
    ·simp only [Bool.and_eq_true,decide_eq_true_eq] at h4
     omega
    ·split at h4
     ·simp only [Bool.and_eq_true,decide_eq_true_eq] at h4
      omega
     ·simp only [decide_eq_true_eq] at h4
      omega
   ·cases h
end Gv
end PartFo4
section PartFo5
namespace Gv
open Go Go.RowKit Gw Gp
variable [Glob]
end Gv
end PartFo5
section PartFo6
namespace Gv
open Go Go.RowKit Gw Gp
variable [Glob]
structure Only (m m':MachS) (i:Nat):Prop where
 g:m'.g=m.g
 f:m'.f=m.f
 p:m'.p=m.p.set i (pr m' i)
theorem set_pr {m:MachS} {i:Nat} (hi:i < m.p.length):m.p.set i (pr m i)=m.p:=by
 unfold pr
 rw [List.getD_eq_getElem?_getD,List.getElem?_eq_getElem hi]
 simp
theorem Only.refl {m:MachS} {i:Nat} (hi:i < m.p.length):Only m m i:=⟨rfl,rfl,(set_pr hi).symm⟩
theorem only_set {m m':MachS} {i:Nat} {p:ProcS} (hi:i < m.p.length) (hg:m'.g=m.g) (hf:m'.f=m.f) (hp:m'.p=m.p.set i p):Only m m' i:=by
 refine ⟨hg,hf,?_⟩
 rw [hp]
 congr 1
 unfold pr
 rw [hp,getD_set,if_pos ⟨rfl,hi⟩]
theorem Only.trans {a b c:MachS} {i:Nat} (hi:i < a.p.length) (h:Only a b i) (k:Only b c i):Only a c i :=
 only_set hi (k.g.trans h.g) (k.f.trans h.f) (p:=pr c i) (by rw [k.p,h.p,List.set_set])
end Gv
end PartFo6
section PartFo7
namespace Gv
open Go Go.RowKit Gw Gp
variable [Glob]
end Gv
end PartFo7
section PartFo8
namespace Gv
open Go Go.RowKit Gw Gp
variable [Glob]
end Gv
end PartFo8
section PartFo9
namespace Gv
open Go Go.RowKit Gw Gp
variable [Glob]
section
variable {w0:Start} {w w':World} {m0 R m:Mem} {q:Loc} {rows:Rows} {P:Program}
end
end Gv
end PartFo9
section PartP21
namespace Gv
open Go Gp
end Gv
end PartP21
section PartS1
namespace Gv
open Go Gp
end Gv
end PartS1
section PartP22
namespace Gv
open Go Gp
end Gv
end PartP22
