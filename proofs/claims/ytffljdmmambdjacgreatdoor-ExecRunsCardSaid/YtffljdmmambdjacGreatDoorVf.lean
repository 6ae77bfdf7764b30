/- A calculus of what functions come to, part f: what is said holds in every world; conditions stand in each theorem. -/
import Derived.HandedShaped
import Derived.LaidMore
import Derived.Laws.Externs
import Derived.Laws.IdiomCopy
import Derived.Lib.AppendStr
import Derived.Lib.Builder
import Derived.Lib.IndexLaws
import Derived.Lib.ItoaNum
import Derived.Lib.LaidTab
import Derived.Lib.UnsafeStr
import Derived.OwnWalk
import Derived.Shelf.RegionOpenPlain
import Derived.Shelf.Vars
import Derived.Stop.LaidErr
import Derived.Test.YtffljdmmambdjacGreatDoorVc
import Derived.Test.YtffljdmmambdjacGreatDoorVd
import Derived.Test.YtffljdmmambdjacGreatDoorVe
import Derived.WalkKit
set_option linter.unusedVariables false
set_option linter.unusedSimpArgs false
set_option linter.unusedSectionVars false
section PartM12
namespace Gv
open Go Gp
theorem qco_ {α:Type} (φ : α→Nat):∀ (l:List α) (i:Nat) (h:i < l.length) (x : α),((l.set i x).map φ).sum+φ l[i]=(l.map φ).sum+φ x
 | a::r,0,h,x=>by simp;omega
 | a::r,i+1,h,x=>by
  have:=qco_ φ r i (by simpa using h) x
  simp only [List.set_cons_succ,List.map_cons,List.sum_cons,List.getElem_cons_succ]
  omega
theorem qe2_:∀ (l:List Bs) (k:Nat) (b:Bs),(l.set k b).flatten.length+(l.getD k []).length≤l.flatten.length+b.length
 | [],k,b=>by simp
 | a::r,0,b=>by simp;omega
 | a::r,k+1,b=>by
  have:=qe2_ r k b
  simp only [List.set_cons_succ,List.flatten_cons,List.length_append,List.getD_cons_succ]
  omega
theorem qkw_:∀ a b:List Bs,(catL a b).flatten.length≤a.flatten.length+b.flatten.length
 | [],b=>by simp [catL]
 | a::r,[]=>by simp [catL]
 | a::r,b::s=>by
  have:=qkw_ r s
  simp only [catL,List.flatten_cons,List.length_append]
  omega
def szP (p:ProcS):Nat:=p.got.flatten.length+p.out.flatten.length+if p.read=true then 0 else 4040
def szQ (q:PipeS):Nat:=q.b.length
def VV (m:MachS):Nat:=(m.p.map szP).sum+(m.pipes.map szQ).sum+m.sunk.length
variable {m:MachS} {i:Nat}
theorem q8l_ (h:i < m.p.length):pr m i=m.p[i]:=by
 unfold pr
 rw [List.getD_eq_getElem?_getD,List.getElem?_eq_getElem h];rfl
theorem q8n_ {x:Nat} (h:x < m.pipes.length):qu m x=m.pipes[x]:=by
 unfold qu
 rw [List.getD_eq_getElem?_getD,List.getElem?_eq_getElem h];rfl
theorem v4_ (hi:i < m.p.length) (p:ProcS):VV (setP m i p)+szP (pr m i)=VV m+szP p:=by
 have:=qco_ szP m.p i hi p
 rw [q8l_ hi]
 unfold VV setP
 dsimp only
 omega
theorem qn5_ (x:Nat) (q:PipeS):VV (setQ m x q)+szQ (qu m x)≤VV m+szQ q:=by
 rcases Nat.lt_or_ge x m.pipes.length with h|h
 ·have:=qco_ szQ m.pipes x h q
  rw [q8n_ h]
  unfold VV setQ
  dsimp only
  omega
 ·have e:qu m x=zP := by
   unfold qu
   rw [List.getD_eq_getElem?_getD,List.getElem?_eq_none h];rfl
  rw [e]
  unfold VV setQ
  dsimp only
  rw [List.set_eq_of_length_le h]
  have:szQ zP=0:=rfl
  omega
theorem q3b_ (p:ProcS) (k:Nat) (b:Bs):szP (setOut p k b)+(p.out.getD k []).length≤szP p+b.length:=by
 have:=qe2_ p.out k b
 unfold szP setOut
 dsimp only
 omega
theorem qrf_ (p:ProcS) (k:Nat) (b:Bs):szP (setGot p k b)+(p.got.getD k []).length≤szP p+b.length:=by
 have:=qe2_ p.got k b
 unfold szP setGot
 dsimp only
 omega
theorem zb8_ (hi:i < m.p.length) (k:Nat):VV (doW m i k)≤VV m:=by
 unfold doW
 have h1:=v4_ (m:=setQ m (rdr m i k) (wo_ (qu m (rdr m i k)) (outK m i k))) (i:=i) hi (setOut (pr m i) k ((outK m i k).drop (xs_ (qu m (rdr m i k)) (outK m i k))))
 have h2:=qn5_ (m:=m) (rdr m i k) (wo_ (qu m (rdr m i k)) (outK m i k))
 have h3:=q3b_ (pr m i) k ((outK m i k).drop (xs_ (qu m (rdr m i k)) (outK m i k)))
 have h4:=q7l_ (qu m (rdr m i k)) (outK m i k)
 have h5:szQ (wo_ (qu m (rdr m i k)) (outK m i k))≤szQ (qu m (rdr m i k))+xs_ (qu m (rdr m i k)) (outK m i k):=by
  unfold wo_ szQ
  split
  ·omega
  ·dsimp only
   rw [List.length_append,List.length_take]
   omega
 rw [qjy_] at h1
 rw [List.length_drop] at h3
 have e:((pr m i).out.getD k []).length=(outK m i k).length:=rfl
 omega
theorem q4l_ (q:PipeS):szQ (vm_ q)=szQ q:=by
 unfold vm_ szQ
 split<;>rfl
theorem qep_ (m:MachS) (i:Nat):∀ n,((qy_ m i n).map szQ).sum=(m.pipes.map szQ).sum
 | 0=>rfl
 | n+1=>by
  have ih:=qep_ m i n
  unfold qy_
  rcases Nat.lt_or_ge (rdr m i n) (qy_ m i n).length with h|h
  ·have h1:=qco_ szQ (qy_ m i n) (rdr m i n) h (vm_ ((qy_ m i n).getD (rdr m i n) zP))
   rw [q4l_] at h1
   have e:(qy_ m i n).getD (rdr m i n) zP=(qy_ m i n)[rdr m i n]:=by
    rw [List.getD_eq_getElem?_getD,List.getElem?_eq_getElem h];rfl
   rw [e] at h1 ⊢
   omega
  ·rw [List.set_eq_of_length_le h,ih]
theorem q3y_ (hi:i < m.p.length):VV (wp_ m i)=VV m:=by
 have h1:=qco_ szP m.p i hi ⟨(pr m i).got,(pr m i).pos,(pr m i).out,(pr m i).read,true⟩
 have h2:=qep_ m i (pr m i).out.length
 have e:szP ⟨(pr m i).got,(pr m i).pos,(pr m i).out,(pr m i).read,true⟩=szP m.p[i]:=by rw [q8l_ hi];rfl
 unfold VV wp_
 dsimp only
 omega
theorem ql4_:∀ l:List Bs,(l.map fun _=>([]:Bs)).flatten.length=0
 | []=>rfl
 | a::r=>by have:=ql4_ r;simpa using this
theorem qn4_ (hi:i < m.p.length) (hr:(pr m i).read=false) (hc:q5_ (ndG m.g i)=0) (hg:(pr m i).got.length=(ndG m.g i).ins.length) (hf:∀ x∈m.f,x.b.length≤4000) (hv:VV m≤500000000):VV (z5_ m i)≤VV m:=by
 unfold z5_
 have h1:=v4_ hi (w3_ (ndG m.g i) m.f (pr m i))
 have h0:szP (pr m i)≤VV m:=by
  have:=v4_ hi ⟨[],0,[],true,true⟩
  have e:szP ⟨[],0,[],true,true⟩=0:=rfl
  rw [e] at this
  omega
 have h2:(pr m i).got.flatten.length+(pr m i).out.flatten.length+4040=szP (pr m i):=by
  unfold szP
  rw [hr]
  rfl
 have h3:=qfe_ hc hg.symm hf (by omega)
 have h4:=qkw_ (pr m i).out (za_ (ndG m.g i) m.f (pr m i).got)
 have h5:=ql4_ (pr m i).got
 have h6:szP (w3_ (ndG m.g i) m.f (pr m i))=((pr m i).got.map fun _=>([]:Bs)).flatten.length+(catL (pr m i).out (za_ (ndG m.g i) m.f (pr m i).got)).flatten.length:=by
  unfold szP w3_
  simp
 omega
theorem q9n_ {c:Cmd} (he:each c=true) (hc:qz_ c=0) (l:List Bs):(put (zq_ c l)).length≤(put l).length:=by
 unfold each at he
 have he:1≤c.kind∧c.kind≤5:=by simpa using he
 unfold zq_
 rw [if_neg (by omega),if_neg (by omega),if_neg (by omega),if_neg (by omega),if_neg (by omega)]
 exact wl_ hc l
theorem q82_ (hi:i < m.p.length) (hr:(pr m i).read=false) (hc:q5_ (ndG m.g i)=0) (hg:(pr m i).got.length=(ndG m.g i).ins.length) (hf:∀ x∈m.f,x.b.length≤4000) (b:Bs) (hv:VV m+b.length≤500000000):VV (xk_ m i b)≤VV m+b.length:=by
 unfold xk_
 dsimp only
 generalize hx:gotK m i (pr m i).pos.toNat++b=x
 have hxl:x.length=(gotK m i (pr m i).pos.toNat).length+b.length:=by rw [←hx,List.length_append]
 have hgk:((pr m i).got.getD (pr m i).pos.toNat []).length=(gotK m i (pr m i).pos.toNat).length:=rfl
 have hx1:=qrf_ (pr m i) (pr m i).pos.toNat x
 have h1:=v4_ hi (setGot (pr m i) (pr m i).pos.toNat x)
 split
 ·have h2:=v4_ (m:=⟨m.g,m.f,m.pipes,m.p,m.sunk++x⟩) (i:=i) hi (setGot (pr m i) (pr m i).pos.toNat [])
  have h3:=qrf_ (pr m i) (pr m i).pos.toNat []
  have e:VV ⟨m.g,m.f,m.pipes,m.p,m.sunk++x⟩=VV m+x.length:=by
   unfold VV
   dsimp only
   rw [List.length_append]
   omega
  have e2:pr (⟨m.g,m.f,m.pipes,m.p,m.sunk++x⟩:MachS) i=pr m i:=rfl
  rw [e,e2] at h2
  rw [List.length_nil] at h3
  omega
 ·split
  ·rename_i hk hbe
   have h2:=qrf_ (pr m i) (pr m i).pos.toNat (rest x)
   generalize hL:put (if (ndG m.g i).kind=3 then zq_ (ndG m.g i).c (qc_ (comp x)) else qc_ (comp x))=L
   have hLl:L.length≤(comp x).length:=by
    have hp:=qm4_ (qg4_ x)
    rw [←hL]
    split
    ·rename_i h3
     have he:each (ndG m.g i).c=true:=by
      rcases hbe with h|h
      ·unfold wv_ at h
       simp [h3] at h
      ·unfold ya_ at h
       simp [h3] at h
       exact h
     have hcc:qz_ (ndG m.g i).c=0:=by
      rcases z3_ hc with ⟨k,e⟩|⟨k,e,w1,w2⟩|⟨k,e,hc⟩|⟨k,e1,e2,hc⟩|⟨k,e⟩
      ·omega
      ·omega
      ·exact hc
      ·omega
      ·omega
     have:=q9n_ he hcc (qc_ (comp x))
     rw [hp] at this
     exact this
    ·rw [hp]
     exact Nat.le_refl _
   have hcr:(comp x).length+(rest x).length=x.length:=by
    have:=congrArg List.length (qeq_ x)
    rw [List.length_append] at this
    exact this
   have h3:=q3b_ (setGot (pr m i) (pr m i).pos.toNat (rest x)) 0 (outK m i 0++L)
   have e:((setGot (pr m i) (pr m i).pos.toNat (rest x)).out.getD 0 []).length=(outK m i 0).length:=rfl
   have h4:=v4_ hi (setOut (setGot (pr m i) (pr m i).pos.toNat (rest x)) 0 (outK m i 0++L))
   rw [List.length_append] at h3
   omega
  ·split
   ·have h2:=qn5_ (m:=setP m i (setGot (pr m i) (pr m i).pos.toNat x)) (insB m.g i) (yy_ (qu m (insB m.g i)))
    have e:szQ (yy_ (qu m (insB m.g i)))=0:=rfl
    have hp:pr (setQ (setP m i (setGot (pr m i) (pr m i).pos.toNat x)) (insB m.g i) (yy_ (qu m (insB m.g i)))) i=setGot (pr m i) (pr m i).pos.toNat x:=by
     rw [qjy_,xe_ hi,if_pos rfl]
    have h3:=qn4_ (m:=setQ (setP m i (setGot (pr m i) (pr m i).pos.toNat x)) (insB m.g i) (yy_ (qu m (insB m.g i)))) (i:=i) (by show i < (m.p.set i _).length;rw [List.length_set];exact hi) (by rw [hp];exact hr) hc (by rw [hp];show ((pr m i).got.set _ _).length=_;rw [List.length_set];exact hg) hf (by omega)
    omega
   ·omega
end Gv
end PartM12
section PartM13
namespace Gv
open Go Gp
variable {f:List FileS} {g:List Gp.Node} {m m':MachS} {i k:Nat}
structure Rt (f:List FileS) (g:List Gp.Node) (m:MachS):Prop where
 sh:Sh f g m
 ck:∀ q∈m.pipes,qi_ q=0
 po:∀ i,i < g.length→(pr m i).read=false→ps m i < nI g i∨nI g i=0
 v:VV m≤300000000
structure Okp (g:List Gp.Node) (i:Nat) (p:ProcS):Prop where
 got:p.got.length=nI g i
 out:p.out.length=nO g i
 lo:0≤p.pos
 hi:p.pos≤(nI g i:Int)
 po:p.read=false→p.pos.toNat < nI g i∨nI g i=0
theorem Rt.okp (R:Rt f g m) (hi:i < g.length):Okp g i (pr m i):=⟨R.sh.got i hi,R.sh.out i hi,(R.sh.pos i hi).1,(R.sh.pos i hi).2,R.po i hi⟩
theorem rt_of (R:Rt f g m) (hi:i < g.length) {p:ProcS} (O:Okp g i p) (e1:m'.g=m.g) (e2:m'.f=m.f) (e3:m'.p=m.p.set i p) (e4:m'.pipes.length=m.pipes.length) (ck:∀ q∈m'.pipes,qi_ q=0) (v:VV m'≤VV m):Rt f g m':=by
 have hl:i < m.p.length:=by rw [R.sh.np];exact hi
 have hp:∀ j,pr m' j=if j=i then p else pr m j:=fun j=>by
  rw [←xe_ hl p j]
  unfold pr setP
  rw [e3]
 refine ⟨⟨e1.trans R.sh.mg,e2.trans R.sh.mf,by rw [e3,List.length_set];exact R.sh.np,e4.trans R.sh.nq,fun j hj=>?_,fun j hj=>?_,fun j hj=>?_⟩,ck,fun j hj=>?_,Nat.le_trans v R.v⟩
 ·rw [hp]
  split
  ·rename_i h;subst h;exact O.got
  ·exact R.sh.got j hj
 ·rw [hp]
  split
  ·rename_i h;subst h;exact O.out
  ·exact R.sh.out j hj
 ·rw [hp]
  split
  ·rename_i h;subst h;exact ⟨O.lo,O.hi⟩
  ·exact R.sh.pos j hj
 ·unfold ps
  rw [hp]
  split
  ·rename_i h;subst h;exact O.po
  ·exact R.po j hj
theorem q65_ {q:PipeS} (h:qi_ q=0):qi_ (yy_ q)=0:=by
 unfold qi_ at h ⊢
 unfold yy_
 dsimp only
 split at h
 ·cases h
 ·rename_i h1
  rw [if_neg h1,if_neg (by rintro (h|h)<;>simp at h<;>omega),if_neg (by rintro ⟨h,h2⟩;exact h2 rfl)]
theorem qr3_ {l:List PipeS} (h:∀ q∈l,qi_ q=0) {x:Nat} {q:PipeS} (hq:x < l.length→qi_ q=0):∀ y∈l.set x q,qi_ y=0:=fun y hy=>by
 rcases Nat.lt_or_ge x l.length with h1|h1
 ·rcases List.mem_or_eq_of_mem_set hy with h2|h2
  ·exact h y h2
  ·rw [h2];exact hq h1
 ·rw [List.set_eq_of_length_le h1] at hy
  exact h y hy
theorem qu_ck (h:∀ q∈m.pipes,qi_ q=0) (x:Nat) (hx:x < m.pipes.length):qi_ (qu m x)=0:=by
 rw [q8n_ hx]
 exact h _ (List.getElem_mem hx)
theorem qg3_ (h:∀ q∈m.pipes,qi_ q=0) (i:Nat):∀ n,(∀ q∈qy_ m i n,qi_ q=0)∧(qy_ m i n).length=m.pipes.length
 | 0=>⟨h,rfl⟩
 | n+1=>by
  obtain ⟨h1,h2⟩:=qg3_ h i n
  unfold qy_
  refine ⟨qr3_ h1 fun hx=>?_,by rw [List.length_set];exact h2⟩
  have e:(qy_ m i n).getD (rdr m i n) zP=(qy_ m i n)[rdr m i n]:=by
   rw [List.getD_eq_getElem?_getD,List.getElem?_eq_getElem hx];rfl
  have hc:=h1 _ (List.getElem_mem hx)
  rw [e,qyd_ hc]
  exact hc
theorem Okp.full (O:Okp g i (pr m i)):Okp g i (w3_ (ndG m.g i) m.f (pr m i)):=by
 refine ⟨?_,?_,O.lo,O.hi,fun h=>by cases h⟩
 ·show ((pr m i).got.map _).length=_
  rw [List.length_map];exact O.got
 ·show (catL _ _).length=_
  rw [qai_];exact O.out
theorem Okp.setGot {p:ProcS} (O:Okp g i p) (k:Nat) (b:Bs):Okp g i (setGot p k b):=⟨by show (p.got.set k b).length=_;rw [List.length_set];exact O.got,O.out,O.lo,O.hi,O.po⟩
theorem Okp.setOut {p:ProcS} (O:Okp g i p) (k:Nat) (b:Bs):Okp g i (setOut p k b):=⟨O.got,by show (p.out.set k b).length=_;rw [List.length_set];exact O.out,O.lo,O.hi,O.po⟩
theorem qt3_ (hl:i < m.p.length) (O:Okp g i (pr m i)) (ck:∀ q∈m.pipes,qi_ q=0) (b:Bs):∃ p,Okp g i p∧(xk_ m i b).g=m.g∧(xk_ m i b).f=m.f∧(xk_ m i b).p=m.p.set i p∧(xk_ m i b).pipes.length=m.pipes.length∧∀ q∈(xk_ m i b).pipes,qi_ q=0:=by
 unfold xk_
 dsimp only
 split
 ·exact ⟨_,O.setGot _ _,rfl,rfl,rfl,rfl,ck⟩
 ·split
  ·exact ⟨_,(O.setGot _ _).setOut _ _,rfl,rfl,rfl,rfl,ck⟩
  ·split
   ·generalize gotK m i (pr m i).pos.toNat++b=x
    have hp:pr (setQ (setP m i (setGot (pr m i) (pr m i).pos.toNat x)) (insB m.g i) (yy_ (qu m (insB m.g i)))) i=setGot (pr m i) (pr m i).pos.toNat x:=by
     rw [qjy_,xe_ hl,if_pos rfl]
    refine ⟨_,Okp.full (m:=setQ (setP m i (setGot (pr m i) (pr m i).pos.toNat x)) (insB m.g i) (yy_ (qu m (insB m.g i)))) (by rw [hp];exact O.setGot _ _),rfl,rfl,List.set_set ..,?_,?_⟩
    ·show (m.pipes.set _ _).length=_
     rw [List.length_set]
    ·exact qr3_ ck fun hx=>q65_ (qu_ck ck _ hx)
   ·exact ⟨_,O.setGot _ _,rfl,rfl,rfl,rfl,ck⟩
theorem q2a_ (R:Rt f g m) (G:GF g) (hf:∀ x∈f,x.b.length≤4000) (hi:i < g.length):Rt f g (qv_ m i).1:=by
 by_cases h0:(qv_ m i).2=0
 case neg=>rw [qgb_ h0];exact R
 have C:=qh6_ R.sh hi (R.po i hi) h0
 have hl:i < m.p.length:=by rw [R.sh.np];exact hi
 have O:=R.okp hi
 have hcn:q5_ (ndG m.g i)=0:=by rw [R.sh.mg];exact G.node i hi
 have hgl:(pr m i).got.length=(ndG m.g i).ins.length:=by rw [O.got,R.sh.mg];rfl
 have hff:∀ x∈m.f,x.b.length≤4000:=by rw [R.sh.mf];exact hf
 have hV:=R.v
 generalize (qv_ m i).1=M at C
 cases C with
 | write k hk ho hw h =>
  subst h
  refine rt_of R hi (O.setOut k _) rfl rfl rfl ?_ ?_ (zb8_ hl k)
  ·show (m.pipes.set _ _).length=_
   rw [List.length_set]
  ·exact qr3_ R.ck fun hx=>q7m_ (qu_ck R.ck _ hx) _
 | close ho hn hr h =>
  subst h
  have h1:=qg3_ R.ck i (pr m i).out.length
  exact rt_of R hi (p:=⟨(pr m i).got,(pr m i).pos,(pr m i).out,(pr m i).read,true⟩) ⟨O.got,O.out,O.lo,O.hi,O.po⟩ rfl rfl rfl h1.2 h1.1 (Nat.le_of_eq (q3y_ hl))
 | source ho hn hr h0 h =>
  subst h
  exact rt_of R hi O.full rfl rfl rfl rfl R.ck (qn4_ hl hr hcn hgl hff (by omega))
 | bite ho hn hr hp hb h =>
  subst h
  generalize pix g i (ps m i)=x at *
  have hq:=qn5_ (m:=m) x (qi2_ (qu m x))
  have e1:szQ (qi2_ (qu m x))=(qu m x).b.length-8:=List.length_drop
  have e2:((qu m x).b.take 8).length=min 8 (qu m x).b.length:=List.length_take
  have e3:szQ (qu m x)=(qu m x).b.length:=rfl
  have ckm:∀ q∈(bitM m x).pipes,qi_ q=0:=qr3_ R.ck fun hx=>q4t_ (qu_ck R.ck _ hx)
  obtain ⟨p,h1,h2,h3,h4,h5,h6⟩:=qt3_ (m:=bitM m x) (g:=g) (i:=i) hl O ckm ((qu m x).b.take 8)
  refine rt_of R hi h1 h2 h3 h4 (h5.trans ?_) h6 ?_
  ·show (m.pipes.set _ _).length=_
   rw [List.length_set]
  ·have hvb:VV (bitM m x)+szQ (qu m x)≤VV m+szQ (qi2_ (qu m x)):=hq
   have:=q82_ (m:=bitM m x) (i:=i) hl hr hcn hgl hff ((qu m x).b.take 8) (by omega)
   omega
 | last ho hn hr hp hb hc h =>
  subst h
  have hnx:=v4_ hl (z8_ (pr m i))
  have e:szP (z8_ (pr m i))=szP (pr m i):=rfl
  have hpr:pr (setP m i (z8_ (pr m i))) i=z8_ (pr m i):=by rw [xe_ hl,if_pos rfl]
  have hO:Okp g i (z8_ (pr m i))→Okp g i (w3_ (ndG m.g i) m.f (z8_ (pr m i))):=fun O'=>by
   have:=Okp.full (g:=g) (i:=i) (m:=setP m i (z8_ (pr m i))) (by rw [hpr];exact O')
   rw [hpr] at this
   exact this
  have hlo:=O.lo
  have hps:ps m i=(pr m i).pos.toNat:=rfl
  refine rt_of R hi (p:=w3_ (ndG m.g i) m.f (z8_ (pr m i))) ?_ rfl rfl ?_ rfl R.ck ?_
  ·refine ⟨?_,?_,?_,?_,fun h=>by cases h⟩
   ·show ((pr m i).got.map _).length=_
    rw [List.length_map];exact O.got
   ·show (catL _ _).length=_
    rw [qai_];exact O.out
   ·show 0≤(pr m i).pos+1
    omega
   ·show (pr m i).pos+1≤_
    omega
  ·show (m.p.set i _).set i (w3_ _ _ (pr (setP m i (z8_ (pr m i))) i))=_
   rw [hpr,List.set_set]
   rfl
  ·have:=qn4_ (m:=setP m i (z8_ (pr m i))) (i:=i) (by show i < (m.p.set i _).length;rw [List.length_set];exact hl) (by rw [hpr];exact hr) hcn (by rw [hpr];exact hgl) hff (by omega)
   omega
 | next ho hn hr hp hb hc h =>
  subst h
  have hnx:=v4_ hl (z8_ (pr m i))
  have e:szP (z8_ (pr m i))=szP (pr m i):=rfl
  have hlo:=O.lo
  have hps:ps m i=(pr m i).pos.toNat:=rfl
  refine rt_of R hi (p:=z8_ (pr m i)) ⟨O.got,O.out,?_,?_,fun _=>.inl ?_⟩ rfl rfl rfl rfl R.ck (by omega)
  ·show 0≤(pr m i).pos+1
   omega
  ·show (pr m i).pos+1≤_
   omega
  ·show ((pr m i).pos+1).toNat < _
   omega
theorem q8s_ (G:GF g) (hf:∀ x∈f, x.b.length≤4000):∀ (l:List Nat) (s:MachS × Bool × Bool), Rt f g s.1→(∀ i∈l, i < g.length) →
  Rt f g (wy_ l s).1∧((wy_ l s).2.2=true→s.2.2=true∨lexD (3*g.length) (mu g (wy_ l s).1) (mu g s.1))∧((wy_ l s).1=s.1∨lexD (3*g.length) (mu g (wy_ l s).1) (mu g s.1))
 | [],s,h,hl=>⟨h,fun h=>.inl h,.inl rfl⟩
 | i::r,s,h,hl=>by
  have hi:=hl i (List.mem_cons_self ..)
  have h1:=q2a_ h G hf hi
  obtain ⟨a1,a2,a3⟩:=q8s_ G hf r ((qv_ s.1 i).1,s.2.1 && (pr (qv_ s.1 i).1 i).over,decide ((qv_ s.1 i).2=0) || s.2.2) h1 fun j hj=>hl j (List.mem_cons_of_mem _ hj)
  have hmu:(qv_ s.1 i).2=0→lexD (3*g.length) (mu g (qv_ s.1 i).1) (mu g s.1):=fun h0=>zbq_ h.sh G hi (qh6_ h.sh hi (h.po i hi) h0)
  refine ⟨a1,fun hw=>?_,?_⟩
  ·by_cases h0:(qv_ s.1 i).2=0
   ·right
    rcases a3 with b|b
    ·show lexD _ (mu g (wy_ r _).1) _
     rw [b];exact hmu h0
    ·exact qhn_ b (hmu h0)
   ·have hn:=qgb_ h0
    rcases a2 hw with b|b
    ·left
     have:decide ((qv_ s.1 i).2=0)=false:=decide_eq_false h0
     dsimp only at b
     rw [this] at b
     simpa using b
    ·right
     dsimp only at b
     rw [hn] at b
     show lexD _ (mu g (wy_ r _).1) _
     rw [hn]
     exact b
  ·by_cases h0:(qv_ s.1 i).2=0
   ·right
    rcases a3 with b|b
    ·show lexD _ (mu g (wy_ r _).1) _
     rw [b];exact hmu h0
    ·exact qhn_ b (hmu h0)
   ·have hn:=qgb_ h0
    rcases a3 with b|b
    ·exact .inl (b.trans hn)
    ·right
     dsimp only at b
     rw [hn] at b
     show lexD _ (mu g (wy_ r _).1) _
     rw [hn]
     exact b
theorem zcw_ (G:GF g) (hf:∀ x∈f,x.b.length≤4000):∀ m,Rt f g m→∃ n r,FinN n m r:=by
 have key:∀ (a:Nat→Nat) (m:MachS),mu g m=a→Rt f g m→∃ n r,FinN n m r:=by
  intro a
  induction a using (q0c_ (3*g.length)).induction with
  | _ a ih =>
   intro m hm h
   have hl:m.p.length=g.length:=h.sh.np
   obtain ⟨a1,a2,a3⟩:=q8s_ G hf (List.range m.p.length) (m,true,false) h fun i hi=>by rw [List.mem_range,hl] at hi;exact hi
   cases ho:(rnd m).2.1 with
   | true=>exact ⟨0,_,.over ho⟩
   | false =>
    cases hw:(rnd m).2.2 with
    | true =>
     rcases a2 hw with b|b
     ·cases b
     ·obtain ⟨n,r,b1⟩:=ih _ (hm ▸ b) (rnd m).1 rfl a1
      exact ⟨n+1,r,.more ho hw b1⟩
    | false=>exact ⟨0,_,.stuck ho hw⟩
 intro m h
 exact key _ m rfl h
end Gv
end PartM13
section PartAny
namespace Gv
open Go Go.RowKit Gw
variable [Glob]
section
variable {w0:Start} {m0 mb:Mem} {qb:Loc} {n:Nat} {E:Env} {L:qe_} {rows:Rows} {ops:Array Oper} {Q:Exit→Act→World→Prop} {a:Act} {w:World}
def setF (sel:Nat→Bool) (i:Nat):Nat→Bool:=fun k=>Nat.beq k i || sel k
theorem qj6_ (sel:Nat→Bool) (i:Nat):setF sel i i=true:=by unfold setF;rw [Nat.beq_refl];rfl
def zce_ (ops:Array Oper):Bool:=(List.range ops.size).all fun j=>match ops[j]? with
 | some o=>o.after.toList.all fun e=>!Region.binds .any e || Nat.blt e.on j
 | none=>true
def qxk_ (E:Env) (call:xo_) (ops:Array Oper) (Inv:(Nat→Bool)→qe_→Rows→Prop):Prop :=
 ∀ sel L rows i o,ops[i]?=some o→sel i=false→(∀ e∈o.after,Region.binds .any e=true→sel e.on=true)→Inv sel L rows→o.guard=none∧xop E call true L rows o.op fun v rows'=>Inv (setF sel i) (putV o.dst v L) rows'
theorem q32_ (H:EnvOK E) {call:xo_} (HC:qbk_ E call) {id:Nat} (hd:qbv_ n ops.toList=true) (hback:zce_ ops=true) {Inv:(Nat→Bool)→qe_→Rows→Prop} (h0:Inv (fun _ => false) L rows) (step:qxk_ E call ops Inv)
  (done:∀ sel L rows a w,(∀ i,i < ops.size→sel i=true)→Inv sel L rows→SIM w0 m0 mb qb n L rows a w→Q .normal a w)
  (S:SIM w0 m0 mb qb n L rows a w):(Code.region id ops true).wp E.P Q a w:=by
 have hdst:∀ (i:Nat) o,ops[i]?=some o→∀ t,o.dst=some t→t < n:=fun i o ho t ht=>by
  have key:∀ (l:List Oper),qbv_ n l=true→o∈l→t < n:=by
   intro l
   induction l with
   | nil=>intro _ h;cases h
   | cons x r ih =>
    intro h hm
    unfold qbv_ at h
    rw [Bool.and_eq_true] at h
    rcases List.mem_cons.1 hm with rfl|hm
    ·rw [ht] at h;simpa [Nat.blt_eq] using h.1
    ·exact ih h.2 hm
  exact key _ hd (by have:=List.mem_of_getElem? (l:=ops.toList) (i:=i) (a:=o) (by simpa using ho);exact this)
 refine wp_region_any H.mixed (qcr_ (Inv:=fun ls a w=>ls.size=ops.size∧∃ L rows,Inv (fun k=>ls.getD k false) L rows∧SIM w0 m0 mb qb n L rows a w) (fun ls a w i I hi=>?_) (fun ls a w I hr=>?_) _ _ _ _ (by rw [Array.toList_replicate,List.count_replicate];simp) ?_)
 ·obtain ⟨hsz,L,rows,hI,⟨⟨R,m,q,s1,s2,s3,s4⟩,s5,s6⟩⟩:=I
  obtain ⟨hf,o,ho,hall⟩:=mem_ready.1 hi
  have hin:i < ls.size:=by rw [hsz];exact (Array.getElem?_eq_some_iff.1 ho).1
  have hff:ls.getD i false=false:=by simp [hin] at hf ⊢;exact hf
  obtain ⟨hg,hx⟩:=step _ L rows i o ho hff hall hI
  have he:(fun k=>(ls.setIfInBounds i true).getD k false)=setF (fun k=>ls.getD k false) i:=by
   funext k
   unfold setF
   by_cases hk:k=i
   ·subst hk
    rw [Nat.beq_refl]
    simp [hin]
   ·rw [getD_set_ne false (fun e=>hk e.symm)]
    have:Nat.beq k i=false:=by
     cases hb:Nat.beq k i with
     | false=>rfl
     | true=>exact absurd (Nat.eq_of_beq_eq_true hb) hk
    rw [this]
    rfl
  unfold wpOp
  simp only [ho]
  rw [if_pos (by simp [Region.wanted,hg])]
  left
  have s3:SlotsR m q L a:=s3
  refine (q3u_ H HC ⟨s1,s2⟩ s3 hx).wp fun u w' ⟨v,rows',R',m',q',hk,C',hm,hq,hv⟩=>?_
  exact ⟨by simp [hsz],_,_,(by rw [he];exact hk),.put C' (s3.up hm hq) ⟨s4.1.trans hm,s4.2.trans hq⟩ s5 s6 hv (hdst i o ho)⟩
 ·obtain ⟨hsz,L,rows,hI,S'⟩:=I
  refine done _ L rows a w (fun i=>?_) hI S'
  induction i using Nat.strongRecOn with
  | _ j ih =>
   intro hj
   cases hs:ls.getD j false with
   | true=>rfl
   | false =>
    exfalso
    have hjr:j∈Region.ready .any ops ls:=by
     refine mem_ready.2 ⟨?_,ops[j],by simp [hj],fun e he hb=>?_⟩
     ·have:j < ls.size:=by rw [hsz];exact hj
      simp [this] at hs ⊢;exact hs
     ·have h1:=List.all_eq_true.1 hback j (List.mem_range.2 hj)
      have h2:ops[j]?=some ops[j]:=by simp [hj]
      simp only [h2] at h1
      have h3:=List.all_eq_true.1 h1 e (by simpa using he)
      rw [hb] at h3
      have h4:e.on < j:=by simpa [Nat.blt_eq] using h3
      exact ih e.on h4 (by omega)
    rw [hr] at hjr;cases hjr
 ·refine ⟨by simp,L,rows,?_,?_⟩
  ·have:(fun k => (Array.replicate ops.size false).getD k false)=fun _ => false := by
    funext k
    rw [Array.getD_eq_getD_getElem?,Array.getElem?_replicate]
    split<;>rfl
   rw [this]
   exact h0
  ·obtain ⟨⟨R,m,q,s1,s2,s3,s4⟩,s5,s6⟩:=S
   have C':=(Cf.mk s1 s2).step (Bel.drew [] w)
   exact ⟨⟨R,m,q,C'.sit,C'.rok,s3,s4⟩,s5,s6⟩
end
end Gv
end PartAny
section PartBld
namespace Gv
open Go Go.RowKit Gw Gp
variable [Glob]
section
variable {w0:Start} {w w':World} {m0 R m:Mem} {q:Loc} {rows:Rows} {P:Program}
end
end Gv
end PartBld
section PartSem
namespace Gv
open Go Go.RowKit Gw Gp
variable [Glob]
section
variable {P:Program} {w w':World} {a:Act} {ops:Array Oper} {rest:List Oper} {o:Oper} {Q:Exit→Act→World→Prop}
end
end Gv
end PartSem
section PartP21
namespace Gv
open Go Gp
end Gv
end PartP21
section PartS1
namespace Gv
open Go Gp
end Gv
end PartS1
section PartP22
namespace Gv
open Go Gp
end Gv
end PartP22
section PartP23
namespace Gv
open Go Gp
def zb3_ (F:List FileS):Prop:=F.Pairwise fun x y=>x.name < y.name
theorem q36_ {a b c:Bs} (h:a < b) (k:b < c):a < c:=List.lt_trans h k
theorem qkp_ (a:Bs):¬ a < a:=List.lt_irrefl a
theorem zco_ {a b:Bs} (h:¬ a < b) (h2:¬ a=b):b < a:=by
 rcases List.le_total a b with h3|h3
 ·rcases List.le_iff_lt_or_eq.1 h3 with h4|h4
  ·exact absurd h4 h
  ·exact absurd h4 h2
 ·rcases List.le_iff_lt_or_eq.1 h3 with h4|h4
  ·exact h4
  ·exact absurd h4.symm h2
theorem files_iff {F:List FileS}:qu_ F=0↔F.length≤12∧(∀ f∈F,q9_ f.name=true∧f.b.length≤4000)∧zb3_ F:=by
 unfold qu_
 constructor
 ·intro h
  split at h
  ·cases h
  ·rename_i h1
   have:=filesGo_iff.1 h
   exact ⟨by omega,this.1,this.2.1⟩
 ·rintro ⟨h1,h2,h3⟩
  rw [if_neg (by omega)]
  exact filesGo_iff.2 ⟨h2,h3,fun q' e=>by cases e⟩
theorem notLess_iff {n:Bs} {f:FileS}:va_ n f=true↔¬ f.name < n:=by unfold va_;rw [qbb_];simp
theorem qwh_ {f:FileS} {r:List FileS} {n:Bs}:x6_ (f::r) n=if f.name < n then x6_ r n+1 else 0:=by
 unfold x6_
 rw [List.findIdx_cons]
 by_cases h:f.name < n
 ·have:va_ n f=false := by
   cases e:va_ n f with
   | false=>rfl
   | true=>exact absurd h (notLess_iff.1 e)
  rw [this,if_pos h];rfl
 ·rw [notLess_iff.2 h,if_neg h];rfl
def getN (F:List FileS) (n:Bs):Bs:=((F.find? fun f=>decide (f.name=n)).map (·.b)).getD []
theorem qe0_ {n:Bs}:∀ {F:List FileS},zb3_ F→yu_ F n=getN F n
 | [],_=>rfl
 | f::r,h=>by
  have h':=List.pairwise_cons.1 h
  have ih:=qe0_ (n:=n) h'.2
  unfold yu_ getN at ih ⊢
  rw [qwh_,List.find?_cons]
  by_cases h1:f.name < n
  ·have h2:¬ f.name=n:=fun e=>qkp_ _ (e ▸ h1)
   rw [if_pos h1,List.getElem?_cons_succ,ih,decide_eq_false h2]
  ·rw [if_neg h1]
   by_cases h2:f.name=n
   ·rw [decide_eq_true h2]
    simp [h2]
   ·rw [decide_eq_false h2]
    have h3:=zco_ h1 h2
    have:r.find? (fun f=>decide (f.name=n))=none:=by
     rw [List.find?_eq_none]
     intro g hg
     have:=q36_ h3 (h'.1 g hg)
     simpa using fun e:g.name=n=>qkp_ _ (e ▸ this)
    simp [h2,this]
end Gv
end PartP23
section PartP6
namespace Gv
open Go Gp
def accM (c:Cmd) (l:List Bs) (i:Nat):List Bs :=
 if c.kind=6 then l.take i else if c.kind=7 then Lib.compactUpTo l.toArray i else if c.kind=8 then []
 else if c.kind=9 then (l.take i).take c.n.toNat else if c.kind=10 then (l.take i).drop (l.length-c.n.toNat) else (l.take i).filterMap (outC c)
theorem zb9_ (c:Cmd) (l:List Bs):accM c l 0=[]:=by
 unfold accM
 simp [Lib.compactUpTo]
theorem q3z_ {c:Cmd} {l:List Bs} (h6:c.kind≠6) (h8:c.kind≠8):accM c l l.length=zq_ c l:=by
 unfold accM zq_
 rw [if_neg h6,if_neg h6,if_neg h8,if_neg h8]
 simp only [List.take_length]
 rfl
theorem q30_ (c:Cmd) (l:List Bs) (i:Nat) (hi:i≤l.length):(accM c l i).length≤l.length:=by
 unfold accM
 split
 ·simp;omega
 split
 ·unfold Lib.compactUpTo
  rw [List.length_map]
  exact Nat.le_trans (List.length_filter_le _ _) (by simpa using hi)
 split
 ·simp
 split
 ·simp;omega
 split
 ·simp;omega
 ·exact Nat.le_trans (List.length_filterMap_le _ _) (by simp;omega)
theorem vk_ {c:Cmd} {l:List Bs} {i:Nat} (h:i < l.length) (hk:c.kind < 6):accM c l (i+1)=accM c l i++(match oneC c l[i] with|(t,true)=>[t]|(_,false)=>[]):=by
 unfold accM
 rw [if_neg (by omega),if_neg (by omega),if_neg (by omega),if_neg (by omega),if_neg (by omega),if_neg (by omega),if_neg (by omega),if_neg (by omega),if_neg (by omega),if_neg (by omega)]
 rw [List.take_succ_eq_append_getElem h,List.filterMap_append]
 congr 1
 simp only [List.filterMap_cons,List.filterMap_nil]
 unfold outC
 generalize oneC c l[i]=p
 obtain ⟨t,b⟩:=p
 cases b<;>rfl
theorem zca_ {c:Cmd} {l:List Bs} {i:Nat} (h:i < l.length) (hk:c.kind=6):accM c l (i+1)=accM c l i++[l[i]]:=by
 unfold accM
 rw [if_pos hk,if_pos hk,List.take_succ_eq_append_getElem h]
theorem q73_ {c:Cmd} {l:List Bs} {i:Nat} (h:i < l.length) (hk:c.kind=7):accM c l (i+1)=accM c l i++(if i=0∨l.getD (i-1) []≠l[i] then [l[i]] else []):=by
 unfold accM
 rw [if_neg (by omega),if_pos hk,if_neg (by omega),if_pos hk,Lib.compactUpTo_succ]
 congr 1
 have e1:l.toArray[i]! = l[i]:=by rw [getElem!_pos _ _ (by simpa using h)];simp
 have e2:l.toArray[i-1]! = l.getD (i-1) []:=by rw [getElem!_pos _ _ (by simp;omega),List.getD_eq_getElem?_getD,List.getElem?_eq_getElem (by omega)];simp
 unfold Lib.keeps
 rw [e1,e2]
 by_cases h0:i=0∨l.getD (i-1) []≠l[i]
 ·rw [if_pos h0,if_pos (by rcases h0 with h|h;simp [h];simp only [decide_eq_true_eq];right;exact fun e=>h e.symm)]
 ·rw [if_neg h0, if_neg (by
   simp only [decide_eq_true_eq]
   rintro (h|h)
   ·exact h0 (.inl h)
   ·exact h0 (.inr fun e=>h e.symm))]
theorem q74_ {c:Cmd} {l:List Bs} {i:Nat} (hk:c.kind=8):accM c l i=[]:=by
 unfold accM
 rw [if_neg (by omega),if_neg (by omega),if_pos hk]
theorem zcb_ {c:Cmd} {l:List Bs} {i:Nat} (h:i < l.length) (hk:c.kind=9):accM c l (i+1)=accM c l i++(if (i:Int) < c.n then [l[i]] else []):=by
 unfold accM
 rw [if_neg (by omega),if_neg (by omega),if_neg (by omega),if_pos hk,if_neg (by omega),if_neg (by omega),if_neg (by omega),if_pos hk]
 rw [List.take_succ_eq_append_getElem h,List.take_append]
 congr 1
 rw [List.length_take,Nat.min_eq_left (by omega)]
 by_cases hn:(i:Int) < c.n
 ·rw [if_pos hn,List.take_of_length_le (by simp;omega)]
 ·rw [if_neg hn,show c.n.toNat-i=0 by omega,List.take_zero]
theorem q83_ {c:Cmd} {l:List Bs} {i:Nat} (h:i < l.length) (hk:c.kind=10) (hn:0≤c.n):accM c l (i+1)=accM c l i++(if (l.length:Int)-c.n≤(i:Int) then [l[i]] else []):=by
 unfold accM
 rw [if_neg (by omega),if_neg (by omega),if_neg (by omega),if_neg (by omega),if_pos hk,if_neg (by omega),if_neg (by omega),if_neg (by omega),if_neg (by omega),if_pos hk]
 rw [List.take_succ_eq_append_getElem h,List.drop_append]
 congr 1
 rw [List.length_take,Nat.min_eq_left (by omega)]
 by_cases hn:(l.length:Int)-c.n≤(i:Int)
 ·rw [if_pos hn,show l.length-c.n.toNat-i=0 by omega,List.drop_zero]
 ·rw [if_neg hn,List.drop_of_length_le (by simp;omega)]
theorem mp_at (f:UInt8→UInt8) {s:Bs} {k:Nat} (h:k < s.length):((s.take k).map f++s.drop k)[k]?=some s[k]:=by
 rw [List.getElem?_append_right (by simp;omega),List.length_map,List.length_take,Nat.min_eq_left (by omega),Nat.sub_self,List.getElem?_drop]
 simp [h]
theorem zc3_ (f:UInt8→UInt8) {s:Bs} {k:Nat} (h:k < s.length):(s.take (k+1)).map f++s.drop (k+1)=((s.take k).map f++s.drop k).set k (f s[k]):=by
 have e1:((s.take k).map f).length=k:=by rw [List.length_map,List.length_take,Nat.min_eq_left (by omega)]
 rw [List.set_append_right _ _ (by rw [e1];exact Nat.le_refl _),e1,Nat.sub_self,List.drop_eq_getElem_cons h,List.set_cons_zero,List.take_succ_eq_append_getElem h,List.map_append,List.append_assoc]
 rfl
theorem mp_eq {x y:UInt8} {s d:Bs} {k:Nat} (h:k < s.length) (hd:d=(s.take k).map (fun z=>if z=x then y else z)++s.drop k) (hk:k < d.length):d[k]=s[k]:=by
 have:=mp_at (fun z=>if z=x then y else z) h
 rw [←hd,List.getElem?_eq_getElem hk] at this
 exact Option.some.inj this
theorem q3e_ {s t:Bs} {j:Nat} (h:j < s.length) (ht:t=(s.drop (j+1)).reverse):t++[s[j]]=(s.drop j).reverse:=by
 rw [List.drop_eq_getElem_cons h,List.reverse_cons,ht]
theorem q03_ {s:Bs} {j:Nat} (h:j < s.length):(s.take (j+1)).drop j=[s[j]]:=by
 rw [List.take_succ_eq_append_getElem h,List.drop_append,List.drop_of_length_le (by simp;omega),List.length_take,Nat.min_eq_left (by omega),Nat.sub_self]
 rfl
theorem one_3 {x y:UInt8} {n:Int} (s:Bs):oneC ⟨3,[x,y],n⟩ s=(s.map (fun z=>if z=x then y else z),true):=by
 rw [←qbg_]
 rfl
theorem one_5 {w:Bs} {n:Int} (s:Bs):oneC ⟨5,w,n⟩ s=(s.reverse,true):=rfl
end Gv
end PartP6
section PartDoor
namespace Gv
open Go Go.Proofs Go.ChangeShapes
abbrev worldGlob (W:World):Glob:=⟨all W⟩
theorem worldGlob_le (W:World):(worldGlob W).mem.Le (all W):=fun b o h=>h
theorem q31_ {W w:World} (h:Gw.Sub (all W) w) {a:Addr} {v:Value} (e:W.cell? a=some v):w.cell? a=some v:=by
 unfold World.cell? at e ⊢
 split at e
 ·rename_i c x y hb
  rw [h _ _ hb]
  exact e
 ·cases e
theorem all_int {P:Program} {W:World} {g:Nat} {t:TypeId} {zero:Array Value} {k:IntKind} (h:W.ShapedOpen P) (hg:g < P.globals.size) (h0:((begin P (fun _ _ => 0) default).world.heap[g]?).bind Obj.row?=some (zero, t)) (hz:zero.size=1)
  (hb:P.buildable t=true) (hc:P.cellTypes P.depth t=some [t]) (hu:P.underlying t=some (.int k)):∀ w,Gw.Sub (all W) w→∃ n,w.cell? ⟨g,0,none⟩=some (.int k n):=fun w hw=>by
 obtain ⟨n,hn⟩:=cell_of_shapedOpen_int h hg h0 hz hb hc hu
 exact ⟨n,q31_ hw hn⟩
theorem all_var {P:Program} {W w:World} (h:Gw.Sub (all W) w) {n:String} {cs:Array Value} (e:W.var? P n=some cs):w.var? P n=some cs:=by
 unfold World.var? at e ⊢
 cases hg:P.globalNamed n with
 | none=>rw [hg] at e;cases e
 | some g =>
  rw [hg] at e
  simp only [Option.bind_some] at e ⊢
  cases hb:W.heap[g]? with
  | none=>rw [hb] at e;cases e
  | some o=>rw [hb] at e;rw [h g o hb];exact e
theorem all_tab {P:Program} {W:World} {n:String} {k:IntKind} {zs:List Int} (h:Lib.TabIs P W n k zs):∀ w,Gw.Sub (all W) w→Lib.TabIs P w n k zs:=fun w hw=>all_var hw h
theorem returns_both {H:Type} {enc:TypeId × Value→H} {a:Assume} {C:Checked} {os:Os} {f:FuncId} {fn:Func} {s:ChangeSpec} {conds:List PathCond} {apart fresh handsOn again:Bool} {X:World→Array Value→Prop}
  (hX:∀ (w w':World) (args:Array Value),w.heap=w'.heap→X w args→X w' args)
  (own:ownKnob C.prog.godebug=none) (started:os.Started) (noInit:C.prog.inits.idxOf? f=none) (hfn:C.prog.funcs[f]?=some fn)
  (witness:∃ (w:World) (tape:Tape) (i:Input),w.os=os∧(w.forCall tape i).Shaped C.prog∧i.vars=[]∧Input.okWide C.prog (w.forCall tape i) .any w.heap.size f i ∧
   ((s.pre enc C.prog fn conds apart (w.forCall tape i).memory i.args∧X (w.forCall tape i).memory i.args)∧sizedMet enc C.prog fn (OpenSpec.ofChange s) apart (w.forCall tape i).memory i.args)∧a.holds C.prog (lone (Frame.enter C.prog f i.args .normal) [] (w.forCall tape i)))
  (contract:∀ (W:World) (base:Nat) (args:Array Value) (ds gs:List (DataW H)) (before:List MemPlace),
   (∀ (j:Nat) t v,fn.params[j]?=some t→args[j]?=some v→Value.okWide C.prog W .any base t v) →
   DataW.Whole enc C.prog fn.params.toList s.vars apart W args.toList ds gs before →
   (DataW.weightsEach C.prog (fn.params.toList++s.plain.varTypes C.prog) (ds++gs)).all (·≤reachBytes)=true→X W args→W.ShapedOpen C.prog →
   Calls C.prog f args W fun e W'=>∃ v,e=.returned v∧s.post enc C.prog fn apart fresh handsOn again W args v W') :
  ReturnsInHanded a C os f .any (fun w args=>(s.pre enc C.prog fn conds apart w args∧X w args)∧sizedMet enc C.prog fn (OpenSpec.ofChange s) apart w args) (s.post enc C.prog fn apart fresh handsOn again):=by
 refine returnsInHanded_of_calls own started noInit witness ?_
 intro w tape i _ hsh _ hok hpre _
 obtain ⟨_,_,_,fn',hfn',_,_,_,_,hval⟩:=hok
 have e:fn'=fn:=Option.some.inj (hfn'.symm.trans hfn)
 subst e
 obtain ⟨⟨⟨ds,gs,before,hw,hc⟩,hx⟩,hz⟩:=hpre
 have hw':=DataW.Whole.of_heap (w':=w.forCall tape i) (by rfl) hw
 refine (contract (w.forCall tape i) w.heap.size i.args ds gs before hval hw' (hz.weights hw) (hX _ _ _ (by rfl) hx) hsh).mono fun e W' ⟨v,he,hp⟩=>?_
 subst he
 exact ChangeSpec.post_blind hp
end Gv
end PartDoor
