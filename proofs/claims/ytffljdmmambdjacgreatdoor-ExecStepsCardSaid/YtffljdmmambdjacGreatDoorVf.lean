/- A calculus of what functions come to, part f: what is said holds in every world; conditions stand in each theorem. -/
import Derived.HandedShaped
import Derived.LaidMore
import Derived.Laws.Externs
import Derived.Laws.IdiomCopy
import Derived.Lib.AppendStr
import Derived.Lib.Builder
import Derived.Lib.IndexLaws
import Derived.Lib.ItoaNum
import Derived.Lib.LaidTab
import Derived.Lib.UnsafeStr
import Derived.OwnWalk
import Derived.Shelf.RegionOpenPlain
import Derived.Shelf.Vars
import Derived.Stop.LaidErr
import Derived.Test.YtffljdmmambdjacGreatDoorVc
import Derived.Test.YtffljdmmambdjacGreatDoorVd
import Derived.Test.YtffljdmmambdjacGreatDoorVe
import Derived.WalkKit
set_option linter.unusedVariables false
set_option linter.unusedSimpArgs false
set_option linter.unusedSectionVars false
section PartM12
namespace Gv
open Go Gp
theorem y9_ {α:Type} (φ : α→Nat):∀ (l:List α) (i:Nat) (h:i < l.length) (x : α),((l.set i x).map φ).sum+φ l[i]=(l.map φ).sum+φ x
 | a::r,0,h,x=>by simp;omega
 | a::r,i+1,h,x=>by
  have:=y9_ φ r i (by simpa using h) x
  simp only [List.set_cons_succ,List.map_cons,List.sum_cons,List.getElem_cons_succ]
  omega
theorem qa7_:∀ (l:List Bs) (k:Nat) (b:Bs),(l.set k b).flatten.length+(l.getD k []).length≤l.flatten.length+b.length
 | [],k,b=>by simp
 | a::r,0,b=>by simp;omega
 | a::r,k+1,b=>by
  have:=qa7_ r k b
  simp only [List.set_cons_succ,List.flatten_cons,List.length_append,List.getD_cons_succ]
  omega
theorem qeb_:∀ a b:List Bs,(catL a b).flatten.length≤a.flatten.length+b.flatten.length
 | [],b=>by simp [catL]
 | a::r,[]=>by simp [catL]
 | a::r,b::s=>by
  have:=qeb_ r s
  simp only [catL,List.flatten_cons,List.length_append]
  omega
def szP (p:ProcS):Nat:=p.got.flatten.length+p.out.flatten.length+if p.read=true then 0 else 4040
def szQ (q:PipeS):Nat:=q.b.length
def VV (m:MachS):Nat:=(m.p.map szP).sum+(m.pipes.map szQ).sum+m.sunk.length
variable {m:MachS} {i:Nat}
theorem qr5_ (h:i < m.p.length):pr m i=m.p[i]:=by
 unfold pr
 rw [List.getD_eq_getElem?_getD,List.getElem?_eq_getElem h];rfl
theorem qr7_ {x:Nat} (h:x < m.pipes.length):qu m x=m.pipes[x]:=by
 unfold qu
 rw [List.getD_eq_getElem?_getD,List.getElem?_eq_getElem h];rfl
theorem xt_ (hi:i < m.p.length) (p:ProcS):VV (setP m i p)+szP (pr m i)=VV m+szP p:=by
 have:=y9_ szP m.p i hi p
 rw [qr5_ hi]
 unfold VV setP
 dsimp only
 omega
theorem qgj_ (x:Nat) (q:PipeS):VV (setQ m x q)+szQ (qu m x)≤VV m+szQ q:=by
 rcases Nat.lt_or_ge x m.pipes.length with h|h
 ·have:=y9_ szQ m.pipes x h q
  rw [qr7_ h]
  unfold VV setQ
  dsimp only
  omega
 ·have e:qu m x=zP := by
   unfold qu
   rw [List.getD_eq_getElem?_getD,List.getElem?_eq_none h];rfl
  rw [e]
  unfold VV setQ
  dsimp only
  rw [List.set_eq_of_length_le h]
  have:szQ zP=0:=rfl
  omega
theorem qno_ (p:ProcS) (k:Nat) (b:Bs):szP (setOut p k b)+(p.out.getD k []).length≤szP p+b.length:=by
 have:=qa7_ p.out k b
 unfold szP setOut
 dsimp only
 omega
theorem qgq_ (p:ProcS) (k:Nat) (b:Bs):szP (setGot p k b)+(p.got.getD k []).length≤szP p+b.length:=by
 have:=qa7_ p.got k b
 unfold szP setGot
 dsimp only
 omega
theorem qux_ (hi:i < m.p.length) (k:Nat):VV (doW m i k)≤VV m:=by
 unfold doW
 have h1:=xt_ (m:=setQ m (rdr m i k) (takeP (qu m (rdr m i k)) (outK m i k))) (i:=i) hi (setOut (pr m i) k ((outK m i k).drop (takeN (qu m (rdr m i k)) (outK m i k))))
 have h2:=qgj_ (m:=m) (rdr m i k) (takeP (qu m (rdr m i k)) (outK m i k))
 have h3:=qno_ (pr m i) k ((outK m i k).drop (takeN (qu m (rdr m i k)) (outK m i k)))
 have h4:=qot_ (qu m (rdr m i k)) (outK m i k)
 have h5:szQ (takeP (qu m (rdr m i k)) (outK m i k))≤szQ (qu m (rdr m i k))+takeN (qu m (rdr m i k)) (outK m i k):=by
  unfold takeP szQ
  split
  ·omega
  ·dsimp only
   rw [List.length_append,List.length_take]
   omega
 rw [qfx_] at h1
 rw [List.length_drop] at h3
 have e:((pr m i).out.getD k []).length=(outK m i k).length:=rfl
 omega
theorem qqp_ (q:PipeS):szQ (closeP q)=szQ q:=by
 unfold closeP szQ
 split<;>rfl
theorem qbf_ (m:MachS) (i:Nat):∀ n,((closeQs m i n).map szQ).sum=(m.pipes.map szQ).sum
 | 0=>rfl
 | n+1=>by
  have ih:=qbf_ m i n
  unfold closeQs
  rcases Nat.lt_or_ge (rdr m i n) (closeQs m i n).length with h|h
  ·have h1:=y9_ szQ (closeQs m i n) (rdr m i n) h (closeP ((closeQs m i n).getD (rdr m i n) zP))
   rw [qqp_] at h1
   have e:(closeQs m i n).getD (rdr m i n) zP=(closeQs m i n)[rdr m i n]:=by
    rw [List.getD_eq_getElem?_getD,List.getElem?_eq_getElem h];rfl
   rw [e] at h1 ⊢
   omega
  ·rw [List.set_eq_of_length_le h,ih]
theorem qor_ (hi:i < m.p.length):VV (closeM m i)=VV m:=by
 have h1:=y9_ szP m.p i hi ⟨(pr m i).got,(pr m i).pos,(pr m i).out,(pr m i).read,true⟩
 have h2:=qbf_ m i (pr m i).out.length
 have e:szP ⟨(pr m i).got,(pr m i).pos,(pr m i).out,(pr m i).read,true⟩=szP m.p[i]:=by rw [qr5_ hi];rfl
 unfold VV closeM
 dsimp only
 omega
theorem qd8_:∀ l:List Bs,(l.map fun _=>([]:Bs)).flatten.length=0
 | []=>rfl
 | a::r=>by have:=qd8_ r;simpa using this
theorem qhj_ (hi:i < m.p.length) (hr:(pr m i).read=false) (hc:checkN (ndG m.g i)=0) (hg:(pr m i).got.length=(ndG m.g i).ins.length) (hf:∀ x∈m.f,x.b.length≤4000) (hv:VV m≤500000000):VV (fullM m i)≤VV m:=by
 unfold fullM
 have h1:=xt_ hi (fullP (ndG m.g i) m.f (pr m i))
 have h0:szP (pr m i)≤VV m:=by
  have:=xt_ hi ⟨[],0,[],true,true⟩
  have e:szP ⟨[],0,[],true,true⟩=0:=rfl
  rw [e] at this
  omega
 have h2:(pr m i).got.flatten.length+(pr m i).out.flatten.length+4040=szP (pr m i):=by
  unfold szP
  rw [hr]
  rfl
 have h3:=qae_ hc hg.symm hf (by omega)
 have h4:=qeb_ (pr m i).out (makeN (ndG m.g i) m.f (pr m i).got)
 have h5:=qd8_ (pr m i).got
 have h6:szP (fullP (ndG m.g i) m.f (pr m i))=((pr m i).got.map fun _=>([]:Bs)).flatten.length+(catL (pr m i).out (makeN (ndG m.g i) m.f (pr m i).got)).flatten.length:=by
  unfold szP fullP
  simp
 omega
theorem qtv_ {c:Cmd} (he:each c=true) (hc:checkCmd c=0) (l:List Bs):(put (linesC c l)).length≤(put l).length:=by
 unfold each at he
 have he:1≤c.kind∧c.kind≤5:=by simpa using he
 unfold linesC
 rw [if_neg (by omega),if_neg (by omega),if_neg (by omega),if_neg (by omega),if_neg (by omega)]
 exact xs_ hc l
theorem qtc_ (hi:i < m.p.length) (hr:(pr m i).read=false) (hc:checkN (ndG m.g i)=0) (hg:(pr m i).got.length=(ndG m.g i).ins.length) (hf:∀ x∈m.f,x.b.length≤4000) (b:Bs) (hv:VV m+b.length≤500000000):VV (cameM m i b)≤VV m+b.length:=by
 unfold cameM
 dsimp only
 generalize hx:gotK m i (pr m i).pos.toNat++b=x
 have hxl:x.length=(gotK m i (pr m i).pos.toNat).length+b.length:=by rw [←hx,List.length_append]
 have hgk:((pr m i).got.getD (pr m i).pos.toNat []).length=(gotK m i (pr m i).pos.toNat).length:=rfl
 have hx1:=qgq_ (pr m i) (pr m i).pos.toNat x
 have h1:=xt_ hi (setGot (pr m i) (pr m i).pos.toNat x)
 split
 ·have h2:=xt_ (m:=⟨m.g,m.f,m.pipes,m.p,m.sunk++x⟩) (i:=i) hi (setGot (pr m i) (pr m i).pos.toNat [])
  have h3:=qgq_ (pr m i) (pr m i).pos.toNat []
  have e:VV ⟨m.g,m.f,m.pipes,m.p,m.sunk++x⟩=VV m+x.length:=by
   unfold VV
   dsimp only
   rw [List.length_append]
   omega
  have e2:pr (⟨m.g,m.f,m.pipes,m.p,m.sunk++x⟩:MachS) i=pr m i:=rfl
  rw [e,e2] at h2
  rw [List.length_nil] at h3
  omega
 ·split
  ·rename_i hk hbe
   have h2:=qgq_ (pr m i) (pr m i).pos.toNat (rest x)
   generalize hL:put (if (ndG m.g i).kind=3 then linesC (ndG m.g i).c (linesOf (comp x)) else linesOf (comp x))=L
   have hLl:L.length≤(comp x).length:=by
    have hp:=qe2_ (qb2_ x)
    rw [←hL]
    split
    ·rename_i h3
     have he:each (ndG m.g i).c=true:=by
      rcases hbe with h|h
      ·unfold isBeh at h
       simp [h3] at h
      ·unfold isEach at h
       simp [h3] at h
       exact h
     have hcc:checkCmd (ndG m.g i).c=0:=by
      rcases qu_ hc with ⟨k,e⟩|⟨k,e,w1,w2⟩|⟨k,e,hc⟩|⟨k,e1,e2,hc⟩|⟨k,e⟩
      ·omega
      ·omega
      ·exact hc
      ·omega
      ·omega
     have:=qtv_ he hcc (linesOf (comp x))
     rw [hp] at this
     exact this
    ·rw [hp]
     exact Nat.le_refl _
   have hcr:(comp x).length+(rest x).length=x.length:=by
    have:=congrArg List.length (qag_ x)
    rw [List.length_append] at this
    exact this
   have h3:=qno_ (setGot (pr m i) (pr m i).pos.toNat (rest x)) 0 (outK m i 0++L)
   have e:((setGot (pr m i) (pr m i).pos.toNat (rest x)).out.getD 0 []).length=(outK m i 0).length:=rfl
   have h4:=xt_ hi (setOut (setGot (pr m i) (pr m i).pos.toNat (rest x)) 0 (outK m i 0++L))
   rw [List.length_append] at h3
   omega
  ·split
   ·have h2:=qgj_ (m:=setP m i (setGot (pr m i) (pr m i).pos.toNat x)) (insB m.g i) (shutP (qu m (insB m.g i)))
    have e:szQ (shutP (qu m (insB m.g i)))=0:=rfl
    have hp:pr (setQ (setP m i (setGot (pr m i) (pr m i).pos.toNat x)) (insB m.g i) (shutP (qu m (insB m.g i)))) i=setGot (pr m i) (pr m i).pos.toNat x:=by
     rw [qfx_,z9_ hi,if_pos rfl]
    have h3:=qhj_ (m:=setQ (setP m i (setGot (pr m i) (pr m i).pos.toNat x)) (insB m.g i) (shutP (qu m (insB m.g i)))) (i:=i) (by show i < (m.p.set i _).length;rw [List.length_set];exact hi) (by rw [hp];exact hr) hc (by rw [hp];show ((pr m i).got.set _ _).length=_;rw [List.length_set];exact hg) hf (by omega)
    omega
   ·omega
end Gv
end PartM12
section PartM13
namespace Gv
open Go Gp
variable {f:List FileS} {g:List Gp.Node} {m m':MachS} {i k:Nat}
structure Rt (f:List FileS) (g:List Gp.Node) (m:MachS):Prop where
 sh:Sh f g m
 ck:∀ q∈m.pipes,checkPipe q=0
 po:∀ i,i < g.length→(pr m i).read=false→ps m i < nI g i∨nI g i=0
 v:VV m≤300000000
structure Okp (g:List Gp.Node) (i:Nat) (p:ProcS):Prop where
 got:p.got.length=nI g i
 out:p.out.length=nO g i
 lo:0≤p.pos
 hi:p.pos≤(nI g i:Int)
 po:p.read=false→p.pos.toNat < nI g i∨nI g i=0
theorem Rt.okp (R:Rt f g m) (hi:i < g.length):Okp g i (pr m i):=⟨R.sh.got i hi,R.sh.out i hi,(R.sh.pos i hi).1,(R.sh.pos i hi).2,R.po i hi⟩
theorem rt_of (R:Rt f g m) (hi:i < g.length) {p:ProcS} (O:Okp g i p) (e1:m'.g=m.g) (e2:m'.f=m.f) (e3:m'.p=m.p.set i p) (e4:m'.pipes.length=m.pipes.length) (ck:∀ q∈m'.pipes,checkPipe q=0) (v:VV m'≤VV m):Rt f g m':=by
 have hl:i < m.p.length:=by rw [R.sh.np];exact hi
 have hp:∀ j,pr m' j=if j=i then p else pr m j:=fun j=>by
  rw [←z9_ hl p j]
  unfold pr setP
  rw [e3]
 refine ⟨⟨e1.trans R.sh.mg,e2.trans R.sh.mf,by rw [e3,List.length_set];exact R.sh.np,e4.trans R.sh.nq,fun j hj=>?_,fun j hj=>?_,fun j hj=>?_⟩,ck,fun j hj=>?_,Nat.le_trans v R.v⟩
 ·rw [hp]
  split
  ·rename_i h;subst h;exact O.got
  ·exact R.sh.got j hj
 ·rw [hp]
  split
  ·rename_i h;subst h;exact O.out
  ·exact R.sh.out j hj
 ·rw [hp]
  split
  ·rename_i h;subst h;exact ⟨O.lo,O.hi⟩
  ·exact R.sh.pos j hj
 ·unfold ps
  rw [hp]
  split
  ·rename_i h;subst h;exact O.po
  ·exact R.po j hj
theorem qqv_ {q:PipeS} (h:checkPipe q=0):checkPipe (shutP q)=0:=by
 unfold checkPipe at h ⊢
 unfold shutP
 dsimp only
 split at h
 ·cases h
 ·rename_i h1
  rw [if_neg h1,if_neg (by rintro (h|h)<;>simp at h<;>omega),if_neg (by rintro ⟨h,h2⟩;exact h2 rfl)]
theorem qiv_ {l:List PipeS} (h:∀ q∈l,checkPipe q=0) {x:Nat} {q:PipeS} (hq:x < l.length→checkPipe q=0):∀ y∈l.set x q,checkPipe y=0:=fun y hy=>by
 rcases Nat.lt_or_ge x l.length with h1|h1
 ·rcases List.mem_or_eq_of_mem_set hy with h2|h2
  ·exact h y h2
  ·rw [h2];exact hq h1
 ·rw [List.set_eq_of_length_le h1] at hy
  exact h y hy
theorem qu_ck (h:∀ q∈m.pipes,checkPipe q=0) (x:Nat) (hx:x < m.pipes.length):checkPipe (qu m x)=0:=by
 rw [qr7_ hx]
 exact h _ (List.getElem_mem hx)
theorem qcb_ (h:∀ q∈m.pipes,checkPipe q=0) (i:Nat):∀ n,(∀ q∈closeQs m i n,checkPipe q=0)∧(closeQs m i n).length=m.pipes.length
 | 0=>⟨h,rfl⟩
 | n+1=>by
  obtain ⟨h1,h2⟩:=qcb_ h i n
  unfold closeQs
  refine ⟨qiv_ h1 fun hx=>?_,by rw [List.length_set];exact h2⟩
  have e:(closeQs m i n).getD (rdr m i n) zP=(closeQs m i n)[rdr m i n]:=by
   rw [List.getD_eq_getElem?_getD,List.getElem?_eq_getElem hx];rfl
  have hc:=h1 _ (List.getElem_mem hx)
  rw [e,qon_ hc]
  exact hc
theorem Okp.full (O:Okp g i (pr m i)):Okp g i (fullP (ndG m.g i) m.f (pr m i)):=by
 refine ⟨?_,?_,O.lo,O.hi,fun h=>by cases h⟩
 ·show ((pr m i).got.map _).length=_
  rw [List.length_map];exact O.got
 ·show (catL _ _).length=_
  rw [yk_];exact O.out
theorem Okp.setGot {p:ProcS} (O:Okp g i p) (k:Nat) (b:Bs):Okp g i (setGot p k b):=⟨by show (p.got.set k b).length=_;rw [List.length_set];exact O.got,O.out,O.lo,O.hi,O.po⟩
theorem Okp.setOut {p:ProcS} (O:Okp g i p) (k:Nat) (b:Bs):Okp g i (setOut p k b):=⟨O.got,by show (p.out.set k b).length=_;rw [List.length_set];exact O.out,O.lo,O.hi,O.po⟩
theorem qkl_ (hl:i < m.p.length) (O:Okp g i (pr m i)) (ck:∀ q∈m.pipes,checkPipe q=0) (b:Bs):∃ p,Okp g i p∧(cameM m i b).g=m.g∧(cameM m i b).f=m.f∧(cameM m i b).p=m.p.set i p∧(cameM m i b).pipes.length=m.pipes.length∧∀ q∈(cameM m i b).pipes,checkPipe q=0:=by
 unfold cameM
 dsimp only
 split
 ·exact ⟨_,O.setGot _ _,rfl,rfl,rfl,rfl,ck⟩
 ·split
  ·exact ⟨_,(O.setGot _ _).setOut _ _,rfl,rfl,rfl,rfl,ck⟩
  ·split
   ·generalize gotK m i (pr m i).pos.toNat++b=x
    have hp:pr (setQ (setP m i (setGot (pr m i) (pr m i).pos.toNat x)) (insB m.g i) (shutP (qu m (insB m.g i)))) i=setGot (pr m i) (pr m i).pos.toNat x:=by
     rw [qfx_,z9_ hl,if_pos rfl]
    refine ⟨_,Okp.full (m:=setQ (setP m i (setGot (pr m i) (pr m i).pos.toNat x)) (insB m.g i) (shutP (qu m (insB m.g i)))) (by rw [hp];exact O.setGot _ _),rfl,rfl,List.set_set ..,?_,?_⟩
    ·show (m.pipes.set _ _).length=_
     rw [List.length_set]
    ·exact qiv_ ck fun hx=>qqv_ (qu_ck ck _ hx)
   ·exact ⟨_,O.setGot _ _,rfl,rfl,rfl,rfl,ck⟩
theorem qs0_ (R:Rt f g m) (G:GF g) (hf:∀ x∈f,x.b.length≤4000) (hi:i < g.length):Rt f g (stepM m i).1:=by
 by_cases h0:(stepM m i).2=0
 case neg=>rw [qnw_ h0];exact R
 have C:=qi3_ R.sh hi (R.po i hi) h0
 have hl:i < m.p.length:=by rw [R.sh.np];exact hi
 have O:=R.okp hi
 have hcn:checkN (ndG m.g i)=0:=by rw [R.sh.mg];exact G.node i hi
 have hgl:(pr m i).got.length=(ndG m.g i).ins.length:=by rw [O.got,R.sh.mg];rfl
 have hff:∀ x∈m.f,x.b.length≤4000:=by rw [R.sh.mf];exact hf
 have hV:=R.v
 generalize (stepM m i).1=M at C
 cases C with
 | write k hk ho hw h =>
  subst h
  refine rt_of R hi (O.setOut k _) rfl rfl rfl ?_ ?_ (qux_ hl k)
  ·show (m.pipes.set _ _).length=_
   rw [List.length_set]
  ·exact qiv_ R.ck fun hx=>qq1_ (qu_ck R.ck _ hx) _
 | close ho hn hr h =>
  subst h
  have h1:=qcb_ R.ck i (pr m i).out.length
  exact rt_of R hi (p:=⟨(pr m i).got,(pr m i).pos,(pr m i).out,(pr m i).read,true⟩) ⟨O.got,O.out,O.lo,O.hi,O.po⟩ rfl rfl rfl h1.2 h1.1 (Nat.le_of_eq (qor_ hl))
 | source ho hn hr h0 h =>
  subst h
  exact rt_of R hi O.full rfl rfl rfl rfl R.ck (qhj_ hl hr hcn hgl hff (by omega))
 | bite ho hn hr hp hb h =>
  subst h
  generalize pix g i (ps m i)=x at *
  have hq:=qgj_ (m:=m) x (dropQ (qu m x))
  have e1:szQ (dropQ (qu m x))=(qu m x).b.length-8:=List.length_drop
  have e2:((qu m x).b.take 8).length=min 8 (qu m x).b.length:=List.length_take
  have e3:szQ (qu m x)=(qu m x).b.length:=rfl
  have ckm:∀ q∈(bitM m x).pipes,checkPipe q=0:=qiv_ R.ck fun hx=>qpl_ (qu_ck R.ck _ hx)
  obtain ⟨p,h1,h2,h3,h4,h5,h6⟩:=qkl_ (m:=bitM m x) (g:=g) (i:=i) hl O ckm ((qu m x).b.take 8)
  refine rt_of R hi h1 h2 h3 h4 (h5.trans ?_) h6 ?_
  ·show (m.pipes.set _ _).length=_
   rw [List.length_set]
  ·have hvb:VV (bitM m x)+szQ (qu m x)≤VV m+szQ (dropQ (qu m x)):=hq
   have:=qtc_ (m:=bitM m x) (i:=i) hl hr hcn hgl hff ((qu m x).b.take 8) (by omega)
   omega
 | last ho hn hr hp hb hc h =>
  subst h
  have hnx:=xt_ hl (nextP (pr m i))
  have e:szP (nextP (pr m i))=szP (pr m i):=rfl
  have hpr:pr (setP m i (nextP (pr m i))) i=nextP (pr m i):=by rw [z9_ hl,if_pos rfl]
  have hO:Okp g i (nextP (pr m i))→Okp g i (fullP (ndG m.g i) m.f (nextP (pr m i))):=fun O'=>by
   have:=Okp.full (g:=g) (i:=i) (m:=setP m i (nextP (pr m i))) (by rw [hpr];exact O')
   rw [hpr] at this
   exact this
  have hlo:=O.lo
  have hps:ps m i=(pr m i).pos.toNat:=rfl
  refine rt_of R hi (p:=fullP (ndG m.g i) m.f (nextP (pr m i))) ?_ rfl rfl ?_ rfl R.ck ?_
  ·refine ⟨?_,?_,?_,?_,fun h=>by cases h⟩
   ·show ((pr m i).got.map _).length=_
    rw [List.length_map];exact O.got
   ·show (catL _ _).length=_
    rw [yk_];exact O.out
   ·show 0≤(pr m i).pos+1
    omega
   ·show (pr m i).pos+1≤_
    omega
  ·show (m.p.set i _).set i (fullP _ _ (pr (setP m i (nextP (pr m i))) i))=_
   rw [hpr,List.set_set]
   rfl
  ·have:=qhj_ (m:=setP m i (nextP (pr m i))) (i:=i) (by show i < (m.p.set i _).length;rw [List.length_set];exact hl) (by rw [hpr];exact hr) hcn (by rw [hpr];exact hgl) hff (by omega)
   omega
 | next ho hn hr hp hb hc h =>
  subst h
  have hnx:=xt_ hl (nextP (pr m i))
  have e:szP (nextP (pr m i))=szP (pr m i):=rfl
  have hlo:=O.lo
  have hps:ps m i=(pr m i).pos.toNat:=rfl
  refine rt_of R hi (p:=nextP (pr m i)) ⟨O.got,O.out,?_,?_,fun _=>.inl ?_⟩ rfl rfl rfl rfl R.ck (by omega)
  ·show 0≤(pr m i).pos+1
   omega
  ·show (pr m i).pos+1≤_
   omega
  ·show ((pr m i).pos+1).toNat < _
   omega
end Gv
end PartM13
section PartAny
namespace Gv
open Go Go.RowKit Gw
variable [Glob]
section
variable {w0:Start} {m0 mb:Mem} {qb:Loc} {n:Nat} {E:Env} {L:VSlots} {rows:Rows} {ops:Array Oper} {Q:Exit→Act→World→Prop} {a:Act} {w:World}
def setF (sel:Nat→Bool) (i:Nat):Nat→Bool:=fun k=>Nat.beq k i || sel k
theorem qdj_ (sel:Nat→Bool) (i:Nat):setF sel i i=true:=by unfold setF;rw [Nat.beq_refl];rfl
def backB (ops:Array Oper):Bool:=(List.range ops.size).all fun j=>match ops[j]? with
 | some o=>o.after.toList.all fun e=>!Region.binds .any e || Nat.blt e.on j
 | none=>true
def AnyStep (E:Env) (call:CallT) (ops:Array Oper) (Inv:(Nat→Bool)→VSlots→Rows→Prop):Prop :=
 ∀ sel L rows i o,ops[i]?=some o→sel i=false→(∀ e∈o.after,Region.binds .any e=true→sel e.on=true)→Inv sel L rows→o.guard=none∧xop E call true L rows o.op fun v rows'=>Inv (setF sel i) (putV o.dst v L) rows'
theorem qqt_ (H:EnvOK E) {call:CallT} (HC:CallOK E call) {id:Nat} (hd:dstsL n ops.toList=true) (hback:backB ops=true) {Inv:(Nat→Bool)→VSlots→Rows→Prop} (h0:Inv (fun _ => false) L rows) (step:AnyStep E call ops Inv)
  (done:∀ sel L rows a w,(∀ i,i < ops.size→sel i=true)→Inv sel L rows→SIM w0 m0 mb qb n L rows a w→Q .normal a w)
  (S:SIM w0 m0 mb qb n L rows a w):(Code.region id ops true).wp E.P Q a w:=by
 have hdst:∀ (i:Nat) o,ops[i]?=some o→∀ t,o.dst=some t→t < n:=fun i o ho t ht=>by
  have key:∀ (l:List Oper),dstsL n l=true→o∈l→t < n:=by
   intro l
   induction l with
   | nil=>intro _ h;cases h
   | cons x r ih =>
    intro h hm
    unfold dstsL at h
    rw [Bool.and_eq_true] at h
    rcases List.mem_cons.1 hm with rfl|hm
    ·rw [ht] at h;simpa [Nat.blt_eq] using h.1
    ·exact ih h.2 hm
  exact key _ hd (by have:=List.mem_of_getElem? (l:=ops.toList) (i:=i) (a:=o) (by simpa using ho);exact this)
 refine wp_region_any H.mixed (vz_ (Inv:=fun ls a w=>ls.size=ops.size∧∃ L rows,Inv (fun k=>ls.getD k false) L rows∧SIM w0 m0 mb qb n L rows a w) (fun ls a w i I hi=>?_) (fun ls a w I hr=>?_) _ _ _ _ (by rw [Array.toList_replicate,List.count_replicate];simp) ?_)
 ·obtain ⟨hsz,L,rows,hI,⟨⟨R,m,q,s1,s2,s3,s4⟩,s5,s6⟩⟩:=I
  obtain ⟨hf,o,ho,hall⟩:=mem_ready.1 hi
  have hin:i < ls.size:=by rw [hsz];exact (Array.getElem?_eq_some_iff.1 ho).1
  have hff:ls.getD i false=false:=by simp [hin] at hf ⊢;exact hf
  obtain ⟨hg,hx⟩:=step _ L rows i o ho hff hall hI
  have he:(fun k=>(ls.setIfInBounds i true).getD k false)=setF (fun k=>ls.getD k false) i:=by
   funext k
   unfold setF
   by_cases hk:k=i
   ·subst hk
    rw [Nat.beq_refl]
    simp [hin]
   ·rw [getD_set_ne false (fun e=>hk e.symm)]
    have:Nat.beq k i=false:=by
     cases hb:Nat.beq k i with
     | false=>rfl
     | true=>exact absurd (Nat.eq_of_beq_eq_true hb) hk
    rw [this]
    rfl
  unfold wpOp
  simp only [ho]
  rw [if_pos (by simp [Region.wanted,hg])]
  left
  have s3:SlotsR m q L a:=s3
  refine (qnr_ H HC ⟨s1,s2⟩ s3 hx).wp fun u w' ⟨v,rows',R',m',q',hk,C',hm,hq,hv⟩=>?_
  exact ⟨by simp [hsz],_,_,(by rw [he];exact hk),.put C' (s3.up hm hq) ⟨s4.1.trans hm,s4.2.trans hq⟩ s5 s6 hv (hdst i o ho)⟩
 ·obtain ⟨hsz,L,rows,hI,S'⟩:=I
  refine done _ L rows a w (fun i=>?_) hI S'
  induction i using Nat.strongRecOn with
  | _ j ih =>
   intro hj
   cases hs:ls.getD j false with
   | true=>rfl
   | false =>
    exfalso
    have hjr:j∈Region.ready .any ops ls:=by
     refine mem_ready.2 ⟨?_,ops[j],by simp [hj],fun e he hb=>?_⟩
     ·have:j < ls.size:=by rw [hsz];exact hj
      simp [this] at hs ⊢;exact hs
     ·have h1:=List.all_eq_true.1 hback j (List.mem_range.2 hj)
      have h2:ops[j]?=some ops[j]:=by simp [hj]
      simp only [h2] at h1
      have h3:=List.all_eq_true.1 h1 e (by simpa using he)
      rw [hb] at h3
      have h4:e.on < j:=by simpa [Nat.blt_eq] using h3
      exact ih e.on h4 (by omega)
    rw [hr] at hjr;cases hjr
 ·refine ⟨by simp,L,rows,?_,?_⟩
  ·have:(fun k => (Array.replicate ops.size false).getD k false)=fun _ => false := by
    funext k
    rw [Array.getD_eq_getD_getElem?,Array.getElem?_replicate]
    split<;>rfl
   rw [this]
   exact h0
  ·obtain ⟨⟨R,m,q,s1,s2,s3,s4⟩,s5,s6⟩:=S
   have C':=(Cf.mk s1 s2).step (Bel.drew [] w)
   exact ⟨⟨R,m,q,C'.sit,C'.rok,s3,s4⟩,s5,s6⟩
end
end Gv
end PartAny
section PartBld
namespace Gv
open Go Go.RowKit Gw Gp
variable [Glob]
section
variable {w0:Start} {w w':World} {m0 R m:Mem} {q:Loc} {rows:Rows} {P:Program}
end
end Gv
end PartBld
section PartSem
namespace Gv
open Go Go.RowKit Gw Gp
variable [Glob]
section
variable {P:Program} {w w':World} {a:Act} {ops:Array Oper} {rest:List Oper} {o:Oper} {Q:Exit→Act→World→Prop}
end
end Gv
end PartSem
section PartP21
namespace Gv
open Go Gp
end Gv
end PartP21
section PartS1
namespace Gv
open Go Gp
end Gv
end PartS1
section PartP22
namespace Gv
open Go Gp
end Gv
end PartP22
section PartP23
namespace Gv
open Go Gp
def Rises (F:List FileS):Prop:=F.Pairwise fun x y=>x.name < y.name
theorem qpm_ {a b c:Bs} (h:a < b) (k:b < c):a < c:=List.lt_trans h k
theorem qeg_ (a:Bs):¬ a < a:=List.lt_irrefl a
theorem qvh_ {a b:Bs} (h:¬ a < b) (h2:¬ a=b):b < a:=by
 rcases List.le_total a b with h3|h3
 ·rcases List.le_iff_lt_or_eq.1 h3 with h4|h4
  ·exact absurd h4 h
  ·exact absurd h4 h2
 ·rcases List.le_iff_lt_or_eq.1 h3 with h4|h4
  ·exact h4
  ·exact absurd h4.symm h2
theorem files_iff {F:List FileS}:checkFiles F=0↔F.length≤12∧(∀ f∈F,isWord f.name=true∧f.b.length≤4000)∧Rises F:=by
 unfold checkFiles
 constructor
 ·intro h
  split at h
  ·cases h
  ·rename_i h1
   have:=filesGo_iff.1 h
   exact ⟨by omega,this.1,this.2.1⟩
 ·rintro ⟨h1,h2,h3⟩
  rw [if_neg (by omega)]
  exact filesGo_iff.2 ⟨h2,h3,fun q' e=>by cases e⟩
theorem notLess_iff {n:Bs} {f:FileS}:notLess n f=true↔¬ f.name < n:=by unfold notLess;rw [yp_];simp
theorem qi9_ {f:FileS} {r:List FileS} {n:Bs}:placeI (f::r) n=if f.name < n then placeI r n+1 else 0:=by
 unfold placeI
 rw [List.findIdx_cons]
 by_cases h:f.name < n
 ·have:notLess n f=false := by
   cases e:notLess n f with
   | false=>rfl
   | true=>exact absurd h (notLess_iff.1 e)
  rw [this,if_pos h];rfl
 ·rw [notLess_iff.2 h,if_neg h];rfl
def getN (F:List FileS) (n:Bs):Bs:=((F.find? fun f=>decide (f.name=n)).map (·.b)).getD []
theorem qa3_ {n:Bs}:∀ {F:List FileS},Rises F→fileAt F n=getN F n
 | [],_=>rfl
 | f::r,h=>by
  have h':=List.pairwise_cons.1 h
  have ih:=qa3_ (n:=n) h'.2
  unfold fileAt getN at ih ⊢
  rw [qi9_,List.find?_cons]
  by_cases h1:f.name < n
  ·have h2:¬ f.name=n:=fun e=>qeg_ _ (e ▸ h1)
   rw [if_pos h1,List.getElem?_cons_succ,ih,decide_eq_false h2]
  ·rw [if_neg h1]
   by_cases h2:f.name=n
   ·rw [decide_eq_true h2]
    simp [h2]
   ·rw [decide_eq_false h2]
    have h3:=qvh_ h1 h2
    have:r.find? (fun f=>decide (f.name=n))=none:=by
     rw [List.find?_eq_none]
     intro g hg
     have:=qpm_ h3 (h'.1 g hg)
     simpa using fun e:g.name=n=>qeg_ _ (e ▸ this)
    simp [h2,this]
end Gv
end PartP23
section PartP6
namespace Gv
open Go Gp
def accM (c:Cmd) (l:List Bs) (i:Nat):List Bs :=
 if c.kind=6 then l.take i else if c.kind=7 then Lib.compactUpTo l.toArray i else if c.kind=8 then []
 else if c.kind=9 then (l.take i).take c.n.toNat else if c.kind=10 then (l.take i).drop (l.length-c.n.toNat) else (l.take i).filterMap (outC c)
theorem qul_ (c:Cmd) (l:List Bs):accM c l 0=[]:=by
 unfold accM
 simp [Lib.compactUpTo]
theorem qpv_ {c:Cmd} {l:List Bs} (h6:c.kind≠6) (h8:c.kind≠8):accM c l l.length=linesC c l:=by
 unfold accM linesC
 rw [if_neg h6,if_neg h6,if_neg h8,if_neg h8]
 simp only [List.take_length]
 rfl
theorem qqi_ (c:Cmd) (l:List Bs) (i:Nat) (hi:i≤l.length):(accM c l i).length≤l.length:=by
 unfold accM
 split
 ·simp;omega
 split
 ·unfold Lib.compactUpTo
  rw [List.length_map]
  exact Nat.le_trans (List.length_filter_le _ _) (by simpa using hi)
 split
 ·simp
 split
 ·simp;omega
 split
 ·simp;omega
 ·exact Nat.le_trans (List.length_filterMap_le _ _) (by simp;omega)
theorem xd_ {c:Cmd} {l:List Bs} {i:Nat} (h:i < l.length) (hk:c.kind < 6):accM c l (i+1)=accM c l i++(match oneC c l[i] with|(t,true)=>[t]|(_,false)=>[]):=by
 unfold accM
 rw [if_neg (by omega),if_neg (by omega),if_neg (by omega),if_neg (by omega),if_neg (by omega),if_neg (by omega),if_neg (by omega),if_neg (by omega),if_neg (by omega),if_neg (by omega)]
 rw [List.take_succ_eq_append_getElem h,List.filterMap_append]
 congr 1
 simp only [List.filterMap_cons,List.filterMap_nil]
 unfold outC
 generalize oneC c l[i]=p
 obtain ⟨t,b⟩:=p
 cases b<;>rfl
theorem qu0_ {c:Cmd} {l:List Bs} {i:Nat} (h:i < l.length) (hk:c.kind=6):accM c l (i+1)=accM c l i++[l[i]]:=by
 unfold accM
 rw [if_pos hk,if_pos hk,List.take_succ_eq_append_getElem h]
theorem qrv_ {c:Cmd} {l:List Bs} {i:Nat} (h:i < l.length) (hk:c.kind=7):accM c l (i+1)=accM c l i++(if i=0∨l.getD (i-1) []≠l[i] then [l[i]] else []):=by
 unfold accM
 rw [if_neg (by omega),if_pos hk,if_neg (by omega),if_pos hk,Lib.compactUpTo_succ]
 congr 1
 have e1:l.toArray[i]! = l[i]:=by rw [getElem!_pos _ _ (by simpa using h)];simp
 have e2:l.toArray[i-1]! = l.getD (i-1) []:=by rw [getElem!_pos _ _ (by simp;omega),List.getD_eq_getElem?_getD,List.getElem?_eq_getElem (by omega)];simp
 unfold Lib.keeps
 rw [e1,e2]
 by_cases h0:i=0∨l.getD (i-1) []≠l[i]
 ·rw [if_pos h0,if_pos (by rcases h0 with h|h;simp [h];simp only [decide_eq_true_eq];right;exact fun e=>h e.symm)]
 ·rw [if_neg h0, if_neg (by
   simp only [decide_eq_true_eq]
   rintro (h|h)
   ·exact h0 (.inl h)
   ·exact h0 (.inr fun e=>h e.symm))]
theorem qr2_ {c:Cmd} {l:List Bs} {i:Nat} (hk:c.kind=8):accM c l i=[]:=by
 unfold accM
 rw [if_neg (by omega),if_neg (by omega),if_pos hk]
theorem qu7_ {c:Cmd} {l:List Bs} {i:Nat} (h:i < l.length) (hk:c.kind=9):accM c l (i+1)=accM c l i++(if (i:Int) < c.n then [l[i]] else []):=by
 unfold accM
 rw [if_neg (by omega),if_neg (by omega),if_neg (by omega),if_pos hk,if_neg (by omega),if_neg (by omega),if_neg (by omega),if_pos hk]
 rw [List.take_succ_eq_append_getElem h,List.take_append]
 congr 1
 rw [List.length_take,Nat.min_eq_left (by omega)]
 by_cases hn:(i:Int) < c.n
 ·rw [if_pos hn,List.take_of_length_le (by simp;omega)]
 ·rw [if_neg hn,show c.n.toNat-i=0 by omega,List.take_zero]
theorem qud_ {c:Cmd} {l:List Bs} {i:Nat} (h:i < l.length) (hk:c.kind=10) (hn:0≤c.n):accM c l (i+1)=accM c l i++(if (l.length:Int)-c.n≤(i:Int) then [l[i]] else []):=by
 unfold accM
 rw [if_neg (by omega),if_neg (by omega),if_neg (by omega),if_neg (by omega),if_pos hk,if_neg (by omega),if_neg (by omega),if_neg (by omega),if_neg (by omega),if_pos hk]
 rw [List.take_succ_eq_append_getElem h,List.drop_append]
 congr 1
 rw [List.length_take,Nat.min_eq_left (by omega)]
 by_cases hn:(l.length:Int)-c.n≤(i:Int)
 ·rw [if_pos hn,show l.length-c.n.toNat-i=0 by omega,List.drop_zero]
 ·rw [if_neg hn,List.drop_of_length_le (by simp;omega)]
theorem mp_at (f:UInt8→UInt8) {s:Bs} {k:Nat} (h:k < s.length):((s.take k).map f++s.drop k)[k]?=some s[k]:=by
 rw [List.getElem?_append_right (by simp;omega),List.length_map,List.length_take,Nat.min_eq_left (by omega),Nat.sub_self,List.getElem?_drop]
 simp [h]
theorem qvg_ (f:UInt8→UInt8) {s:Bs} {k:Nat} (h:k < s.length):(s.take (k+1)).map f++s.drop (k+1)=((s.take k).map f++s.drop k).set k (f s[k]):=by
 have e1:((s.take k).map f).length=k:=by rw [List.length_map,List.length_take,Nat.min_eq_left (by omega)]
 rw [List.set_append_right _ _ (by rw [e1];exact Nat.le_refl _),e1,Nat.sub_self,List.drop_eq_getElem_cons h,List.set_cons_zero,List.take_succ_eq_append_getElem h,List.map_append,List.append_assoc]
 rfl
theorem mp_eq {x y:UInt8} {s d:Bs} {k:Nat} (h:k < s.length) (hd:d=(s.take k).map (fun z=>if z=x then y else z)++s.drop k) (hk:k < d.length):d[k]=s[k]:=by
 have:=mp_at (fun z=>if z=x then y else z) h
 rw [←hd,List.getElem?_eq_getElem hk] at this
 exact Option.some.inj this
theorem qkt_ {s t:Bs} {j:Nat} (h:j < s.length) (ht:t=(s.drop (j+1)).reverse):t++[s[j]]=(s.drop j).reverse:=by
 rw [List.drop_eq_getElem_cons h,List.reverse_cons,ht]
theorem qlt_ {s:Bs} {j:Nat} (h:j < s.length):(s.take (j+1)).drop j=[s[j]]:=by
 rw [List.take_succ_eq_append_getElem h,List.drop_append,List.drop_of_length_le (by simp;omega),List.length_take,Nat.min_eq_left (by omega),Nat.sub_self]
 rfl
theorem one_3 {x y:UInt8} {n:Int} (s:Bs):oneC ⟨3,[x,y],n⟩ s=(s.map (fun z=>if z=x then y else z),true):=by
 rw [←yx_]
 rfl
theorem one_5 {w:Bs} {n:Int} (s:Bs):oneC ⟨5,w,n⟩ s=(s.reverse,true):=rfl
end Gv
end PartP6
section PartDoor
namespace Gv
open Go Go.Proofs Go.ChangeShapes
abbrev worldGlob (W:World):Glob:=⟨all W⟩
theorem worldGlob_le (W:World):(worldGlob W).mem.Le (all W):=fun b o h=>h
theorem qra_ {W w:World} (h:Gw.Sub (all W) w) {a:Addr} {v:Value} (e:W.cell? a=some v):w.cell? a=some v:=by
 unfold World.cell? at e ⊢
 split at e
 ·rename_i c x y hb
  rw [h _ _ hb]
  exact e
 ·cases e
theorem all_int {P:Program} {W:World} {g:Nat} {t:TypeId} {zero:Array Value} {k:IntKind} (h:W.ShapedOpen P) (hg:g < P.globals.size) (h0:((begin P (fun _ _ => 0) default).world.heap[g]?).bind Obj.row?=some (zero, t)) (hz:zero.size=1)
  (hb:P.buildable t=true) (hc:P.cellTypes P.depth t=some [t]) (hu:P.underlying t=some (.int k)):∀ w,Gw.Sub (all W) w→∃ n,w.cell? ⟨g,0,none⟩=some (.int k n):=fun w hw=>by
 obtain ⟨n,hn⟩:=cell_of_shapedOpen_int h hg h0 hz hb hc hu
 exact ⟨n,qra_ hw hn⟩
theorem all_var {P:Program} {W w:World} (h:Gw.Sub (all W) w) {n:String} {cs:Array Value} (e:W.var? P n=some cs):w.var? P n=some cs:=by
 unfold World.var? at e ⊢
 cases hg:P.globalNamed n with
 | none=>rw [hg] at e;cases e
 | some g =>
  rw [hg] at e
  simp only [Option.bind_some] at e ⊢
  cases hb:W.heap[g]? with
  | none=>rw [hb] at e;cases e
  | some o=>rw [hb] at e;rw [h g o hb];exact e
theorem all_tab {P:Program} {W:World} {n:String} {k:IntKind} {zs:List Int} (h:Lib.TabIs P W n k zs):∀ w,Gw.Sub (all W) w→Lib.TabIs P w n k zs:=fun w hw=>all_var hw h
theorem returns_both {H:Type} {enc:TypeId × Value→H} {a:Assume} {C:Checked} {os:Os} {f:FuncId} {fn:Func} {s:ChangeSpec} {conds:List PathCond} {apart fresh handsOn again:Bool} {X:World→Array Value→Prop}
  (hX:∀ (w w':World) (args:Array Value),w.heap=w'.heap→X w args→X w' args)
  (own:ownKnob C.prog.godebug=none) (started:os.Started) (noInit:C.prog.inits.idxOf? f=none) (hfn:C.prog.funcs[f]?=some fn)
  (witness:∃ (w:World) (tape:Tape) (i:Input),w.os=os∧(w.forCall tape i).Shaped C.prog∧i.vars=[]∧Input.okWide C.prog (w.forCall tape i) .any w.heap.size f i ∧
   ((s.pre enc C.prog fn conds apart (w.forCall tape i).memory i.args∧X (w.forCall tape i).memory i.args)∧sizedMet enc C.prog fn (OpenSpec.ofChange s) apart (w.forCall tape i).memory i.args)∧a.holds C.prog (lone (Frame.enter C.prog f i.args .normal) [] (w.forCall tape i)))
  (contract:∀ (W:World) (base:Nat) (args:Array Value) (ds gs:List (DataW H)) (before:List MemPlace),
   (∀ (j:Nat) t v,fn.params[j]?=some t→args[j]?=some v→Value.okWide C.prog W .any base t v) →
   DataW.Whole enc C.prog fn.params.toList s.vars apart W args.toList ds gs before →
   (DataW.weightsEach C.prog (fn.params.toList++s.plain.varTypes C.prog) (ds++gs)).all (·≤reachBytes)=true→X W args→W.ShapedOpen C.prog →
   Calls C.prog f args W fun e W'=>∃ v,e=.returned v∧s.post enc C.prog fn apart fresh handsOn again W args v W') :
  ReturnsInHanded a C os f .any (fun w args=>(s.pre enc C.prog fn conds apart w args∧X w args)∧sizedMet enc C.prog fn (OpenSpec.ofChange s) apart w args) (s.post enc C.prog fn apart fresh handsOn again):=by
 refine returnsInHanded_of_calls own started noInit witness ?_
 intro w tape i _ hsh _ hok hpre _
 obtain ⟨_,_,_,fn',hfn',_,_,_,_,hval⟩:=hok
 have e:fn'=fn:=Option.some.inj (hfn'.symm.trans hfn)
 subst e
 obtain ⟨⟨⟨ds,gs,before,hw,hc⟩,hx⟩,hz⟩:=hpre
 have hw':=DataW.Whole.of_heap (w':=w.forCall tape i) (by rfl) hw
 refine (contract (w.forCall tape i) w.heap.size i.args ds gs before hval hw' (hz.weights hw) (hX _ _ _ (by rfl) hx) hsh).mono fun e W' ⟨v,he,hp⟩=>?_
 subst he
 exact ChangeSpec.post_blind hp
end Gv
end PartDoor
